/- Plain laws. -/
import Derived.Test.YtlmnicmjhcblcaaGreatDoorWalk
import Derived.Lib.ValidLaws
import Derived.Lib.TrimUEq
import Derived.Lib.RuneCount
import Derived.Lib.SplitLaws
import Derived.Lib.IndexAny
set_option linter.unusedSimpArgs false
set_option linter.unusedVariables false
set_option maxRecDepth 100000
namespace Go.Rv
open Go.Lib
theorem xv0 {x:Int} (h0:-9223372036854775808 ≤ x) (h1:x ≤ 9223372036854775807):w64 x=x:=by
 show IntKind.i64.wrap x=x
 rw [IntKind.wrap_i64];omega
theorem xv1 {α:Type} {l:List α} {i:Nat}:ix l (i:Int)=l[i]?:=by simp [ix]
def contN:Nat->Nat->List UInt8->Option Nat
 | 0,n,_=>some n
 | k + 1,n,c::l=>if c.toNat / 64=2 then contN k (64 * n + c.toNat - 128) l else none
 | _ + 1,_,[]=>none
def contR:Option Nat->Unit ⊕ Int
 | none=>.inl ()
 | some m=>.inr (m:Int)
theorem xv198 (s:List UInt8) (p z:Nat) (hl:s.length ≤ 70000) (hz:z ≤ 4) (hp:p + z ≤ s.length):∀ (k i n:Nat),i + k=z->n < 1000 ^ (i + 1) ->
 iter (fn150_l1 s (p:Int) (z:Int)) ((n:Int),(i:Int))=some (contR (contN k n (s.drop (p + i)))):=by
 intro k
 induction k with
 | zero =>
  intro i n hi hn
  rw [yv700]
  simp only [fn150_l1,fn150_b1]
  rw [if_neg (by simp;omega)]
  rfl
 | succ k ih =>
  intro i n hi hn
  rw [yv700]
  simp only [fn150_l1,fn150_b1]
  have hlt:p + i < s.length:=by omega
  have e1:w64 ((p:Int) + (i:Int))=((p + i:Nat):Int):=by rw [xv0 (by omega) (by omega)];simp
  rw [if_pos (by simp;omega),e1,xv1,List.getElem?_eq_getElem hlt,Option.bind_some,List.drop_eq_getElem_cons hlt]
  have hc:=s[p + i].toNat_lt
  have ih:=ih (i + 1) (64 * n + s[p + i].toNat - 128) (by omega) (by
   rw [Nat.pow_succ]
   have:1000 ≤ 1000 ^ (i + 1):=Nat.le_self_pow (by omega) 1000
   generalize 1000 ^ (i + 1)=M at hn this ⊢
   generalize s[p + i]=c at hc ⊢
   omega)
  rw [show p + (i + 1)=p + i + 1 by omega] at ih
  generalize s[p + i]=c at hc ih ⊢
  have h64:(1000:Nat) ^ (i + 1) ≤ 1000 ^ 5:=Nat.pow_le_pow_right (by decide) (by omega)
  have e64:(1000:Nat) ^ 5=1000000000000000:=by decide
  have ec:w64 (c.toNat:Int)=(c.toNat:Int):=xv0 (by omega) (by omega)
  rw [ec]
  simp only [contN]
  by_cases h1:c.toNat < 128
  ·rw [if_pos (by simp;omega),if_neg (by omega)];rfl
  ·rw [if_neg (by simp;omega)]
   by_cases h2:192 ≤ c.toNat
   ·rw [if_pos (by simp;omega),if_neg (by omega)];rfl
   ·rw [if_neg (by simp;omega),if_pos (by omega)]
    have e2:w64 (w64 (w64 (64 * (n:Int)) + (c.toNat:Int)) - 128)=((64 * n + c.toNat - 128:Nat):Int):=by
     rw [xv0 (x:=64 * (n:Int)) (by omega) (by omega),xv0 (x:=64 * (n:Int) + (c.toNat:Int)) (by omega) (by omega),xv0 (by omega) (by omega)];omega
    have e3:w64 ((i:Int) + 1)=((i + 1:Nat):Int):=by rw [xv0 (by omega) (by omega)];simp
    rw [e2,e3]
    exact ih
def restN (z least:Nat):Option Nat->Nat
 | some n=>if n < least∨n > 1114111∨(n ≥ 55296∧n ≤ 57343) then 0 else z
 | none=>0
theorem xv123 (s:List UInt8) (p c z n least:Nat) (hl:s.length ≤ 70000) (hpl:p ≤ 70000) (hz1:1 ≤ z) (hz:z ≤ 4) (hn:n < 1000000) (hleast:least ≤ 100000) :
 ∃ v,fn150_c0 s (p:Int) (c:Int) (z:Int) (n:Int) (least:Int) (fun a b=>some (a,b))=some (v,((if 248 ≤ c∨s.length < p + z then 0 else restN z least (contN (z - 1) n (s.drop (p + 1))):Nat):Int)):=by
 simp only [fn150_c0]
 by_cases h1:248 ≤ c
 ·rw [if_pos (by simp;omega),if_pos (Or.inl h1)];exact ⟨0,rfl⟩
 ·rw [if_neg (by simp;omega)]
  by_cases hp:s.length < p + z
  ·have e1:w64 ((p:Int) + (z:Int))=((p + z:Nat):Int):=by rw [xv0 (by omega) (by omega)];simp
   rw [e1,if_pos (by simp;omega),if_pos (Or.inr hp)];exact ⟨0,rfl⟩
  ·have e1:w64 ((p:Int) + (z:Int))=((p + z:Nat):Int):=by rw [xv0 (by omega) (by omega)];simp
   have hit:=xv198 s p z hl hz (by omega) (z - 1) 1 n (by omega) (by simpa using hn)
   rw [show (((1:Nat):Int))=1 from rfl] at hit
   rw [e1,if_neg (by simp;omega),if_neg (by omega),hit,Option.bind_some]
   cases contN (z - 1) n (s.drop (p + 1)) with
   | none=>exact ⟨0,rfl⟩
   | some m =>
    simp only [contR,restN]
    by_cases q1:m < least
    ·rw [if_pos (by simp;omega)];exact ⟨0,by simp [q1]⟩
    ·rw [if_neg (by simp;omega)]
     by_cases q2:m > 1114111
     ·rw [if_pos (by simp;omega)];exact ⟨0,by simp [q1,q2]⟩
     ·rw [if_neg (by simp;omega)]
      by_cases q3:m ≥ 55296
      ·rw [if_pos (by simp;omega)]
       by_cases q4:m ≤ 57343
       ·rw [if_pos (by simp;omega)];exact ⟨0,by simp [q1,q2,q3,q4]⟩
       ·rw [if_neg (by simp;omega)];exact ⟨m,by simp [q1,q2,q3,q4]⟩
      ·rw [if_neg (by simp;omega)];exact ⟨m,by simp [q1,q2,q3]⟩
end Go.Rv
namespace Go.Rv
open Go.Lib
def sgn (l:List UInt8):Nat:=match l with
 | []=>0
 | c::t =>
  if 240 ≤ c.toNat then (if 248 ≤ c.toNat∨t.length < 3 then 0 else restN 4 65536 (contN 3 (c.toNat - 240) t))
  else if 224 ≤ c.toNat then (if t.length < 2 then 0 else restN 3 2048 (contN 2 (c.toNat - 224) t))
  else if 192 ≤ c.toNat then (if t.length < 1 then 0 else restN 2 128 (contN 1 (c.toNat - 192) t))
  else if 128 ≤ c.toNat then 0 else restN 1 1 (some c.toNat)
theorem xv322 (s:List UInt8) (p:Nat) (hl:s.length ≤ 70000) (hp:p < s.length):∃ v,fn150 s (p:Int)=some (v,(sgn (s.drop p):Int)):=by
 simp only [fn150]
 rw [xv1,List.getElem?_eq_getElem hp,Option.bind_some,List.drop_eq_getElem_cons hp]
 have hlen:(s.drop (p + 1)).length=s.length - (p + 1):=List.length_drop
 simp only [sgn,hlen]
 generalize s[p]=c
 have hc:=c.toNat_lt
 have ec:w64 (c.toNat:Int)=(c.toNat:Int):=xv0 (by omega) (by omega)
 rw [ec]
 by_cases h1:240 ≤ c.toNat
 ·rw [if_pos (by simp;omega),if_pos h1,show w64 ((c.toNat:Int) - 240)=((c.toNat - 240:Nat):Int) by rw [xv0 (by omega) (by omega)];omega]
  obtain ⟨v,hv⟩:=xv123 s p c.toNat 4 (c.toNat - 240) 65536 hl (by omega) (by omega) (by omega) (by omega) (by omega)
  refine ⟨v,hv.trans ?_⟩
  congr 3
  exact ite_congr (propext (by omega)) (fun _=>rfl) (fun _=>rfl)
 ·rw [if_neg (by simp;omega),if_neg h1]
  by_cases h2:224 ≤ c.toNat
  ·rw [if_pos (by simp;omega),if_pos h2,show w64 ((c.toNat:Int) - 224)=((c.toNat - 224:Nat):Int) by rw [xv0 (by omega) (by omega)];omega]
   obtain ⟨v,hv⟩:=xv123 s p c.toNat 3 (c.toNat - 224) 2048 hl (by omega) (by omega) (by omega) (by omega) (by omega)
   refine ⟨v,hv.trans ?_⟩
   congr 3
   exact ite_congr (propext (by omega)) (fun _=>rfl) (fun _=>rfl)
  ·rw [if_neg (by simp;omega),if_neg h2]
   by_cases h3:192 ≤ c.toNat
   ·rw [if_pos (by simp;omega),if_pos h3,show w64 ((c.toNat:Int) - 192)=((c.toNat - 192:Nat):Int) by rw [xv0 (by omega) (by omega)];omega]
    obtain ⟨v,hv⟩:=xv123 s p c.toNat 2 (c.toNat - 192) 128 hl (by omega) (by omega) (by omega) (by omega) (by omega)
    refine ⟨v,hv.trans ?_⟩
    congr 3
    exact ite_congr (propext (by omega)) (fun _=>rfl) (fun _=>rfl)
   ·rw [if_neg (by simp;omega),if_neg h3]
    by_cases h4:128 ≤ c.toNat
    ·rw [if_pos (by simp;omega),if_pos h4];exact ⟨0,rfl⟩
    ·rw [if_neg (by simp;omega),if_neg h4]
     obtain ⟨v,hv⟩:=xv123 s p c.toNat 1 c.toNat 1 hl (by omega) (by omega) (by omega) (by omega) (by omega)
     refine ⟨v,hv.trans ?_⟩
     rw [if_neg (by omega)];rfl
theorem restS (z least n:Nat):restN z least (some n)=if n < least∨n > 1114111∨(n ≥ 55296∧n ≤ 57343) then 0 else z:=rfl
theorem xv24 (z least:Nat):restN z least none=0:=rfl
theorem xv16 (z least:Nat) (o:Option Nat) (p:Prop) [Decidable p]:restN z least (if p then o else none)=if p then restN z least o else 0:=by split<;>rfl
theorem xv226 (c:UInt8) (t:List UInt8):sgn (c::t)=if decodeL (c::t)=(65533,1)∨c.toNat=0 then 0 else (decodeL (c::t)).2:=by
 rw [decodeL_N]
 have hc:=c.toNat_lt
 by_cases h128:c.toNat < 128
 ·have e:sgn (c::t)=restN 1 1 (some c.toNat):=by simp only [sgn];rw [if_neg (by omega),if_neg (by omega),if_neg (by omega),if_neg (by omega)]
  rw [e]
  simp only [decodeN,List.getD_cons_zero,h128,if_true,restN]
  by_cases h0:c.toNat=0
  ·rw [if_pos (by omega),if_pos (Or.inr h0)]
  ·rw [if_neg (by omega),if_neg (by intro h;rcases h with h|h;(simp only [Prod.mk.injEq] at h;omega);omega)]
 ·have key:∀ (n b1 b2 b3:Nat),(decodeN n c.toNat b1 b2 b3=(65533,1)∨(1 < (decodeN n c.toNat b1 b2 b3).2)):=by
   intro n b1 b2 b3
   simp only [decodeN,h128,if_false]
   repeat' split
   all_goals first|(left;rfl)|(right;exact Nat.lt_of_sub_pos Nat.one_pos)|(right;show 1 < _;simp)
  generalize hD:decodeN (c::t).length ((c::t).getD 0 0).toNat ((c::t).getD 1 0).toNat ((c::t).getD 2 0).toNat ((c::t).getD 3 0).toNat=D
  have hD2:(if D=(65533,1)∨c.toNat=0 then 0 else D.2)=if D.2=1 then 0 else D.2:=by
   rcases key (c::t).length ((c::t).getD 1 0).toNat ((c::t).getD 2 0).toNat ((c::t).getD 3 0).toNat with k|k
   ·rw [← hD]
    simp only [List.getD_cons_zero] at k ⊢
    rw [k];simp
   ·simp only [List.getD_cons_zero] at hD
    rw [hD] at k
    rw [if_neg (by intro h;rcases h with h|h;(rw [h] at k;simp at k);omega),if_neg (by omega)]
  rw [hD2,← hD]
  clear hD hD2 key D
  match t with
  | [] =>
   simp only [sgn,decodeN,List.getD_cons_zero,List.length_cons,List.length_nil,h128,if_false]
   repeat' split
   all_goals omega
  | [d] =>
   have hd:=d.toNat_lt
   have n1:1 < [c,d].length:=by simp
   have n2:¬ 2 < [c,d].length:=by simp
   have n3:¬ 3 < [c,d].length:=by simp
   have l3:[d].length < 3:=by simp
   have l2:[d].length < 2:=by simp
   have l1:¬ [d].length < 1:=by simp
   generalize [c,d].length=n at n1 n2 n3
   simp only [sgn,decodeN,List.getD_cons_zero,List.getD_cons_succ,h128,if_false,n1,n2,n3,l1,l2,l3,true_and,false_and,and_false,or_true,if_true]
   by_cases g4:240 ≤ c.toNat
   ·have x1:¬ c.toNat / 32=6:=by omega
    have x2:¬ c.toNat / 16=14:=by omega
    simp only [g4,if_true,x1,x2,false_and,if_false,contN,xv16,restS,xv24]
    repeat' split
    all_goals omega
   ·by_cases g3:224 ≤ c.toNat
    ·have x1:¬ c.toNat / 32=6:=by omega
     have x2:c.toNat / 16=14:=by omega
     have x3:¬ c.toNat / 8=30:=by omega
     simp only [g4,g3,if_true,x1,x2,x3,true_and,false_and,if_false,contN,xv16,restS,xv24]
     repeat' split
     all_goals omega
    ·by_cases g2:192 ≤ c.toNat
     ·have x1:c.toNat / 32=6:=by omega
      have x2:¬ c.toNat / 16=14:=by omega
      have x3:¬ c.toNat / 8=30:=by omega
      simp only [g4,g3,g2,if_true,x1,x2,x3,true_and,false_and,if_false,contN,xv16,restS,xv24]
      repeat' split
      all_goals omega
     ·have x1:¬ c.toNat / 32=6:=by omega
      have x2:¬ c.toNat / 16=14:=by omega
      have x3:¬ c.toNat / 8=30:=by omega
      have g1:128 ≤ c.toNat:=by omega
      simp only [g4,g3,g2,g1,if_true,x1,x2,x3,false_and,if_false]
  | [d,e] =>
   have hd:=d.toNat_lt
   have he:=e.toNat_lt
   have n1:1 < [c,d,e].length:=by simp
   have n2:2 < [c,d,e].length:=by simp
   have n3:¬ 3 < [c,d,e].length:=by simp
   have l3:[d,e].length < 3:=by simp
   have l2:¬ [d,e].length < 2:=by simp
   have l1:¬ [d,e].length < 1:=by simp
   generalize [c,d,e].length=n at n1 n2 n3
   simp only [sgn,decodeN,List.getD_cons_zero,List.getD_cons_succ,h128,if_false,n1,n2,n3,l1,l2,l3,true_and,false_and,and_false,or_true,if_true]
   by_cases g4:240 ≤ c.toNat
   ·have x1:¬ c.toNat / 32=6:=by omega
    have x2:¬ c.toNat / 16=14:=by omega
    simp only [g4,if_true,x1,x2,false_and,if_false,contN,xv16,restS,xv24]
    repeat' split
    all_goals omega
   ·by_cases g3:224 ≤ c.toNat
    ·have x1:¬ c.toNat / 32=6:=by omega
     have x2:c.toNat / 16=14:=by omega
     have x3:¬ c.toNat / 8=30:=by omega
     simp only [g4,g3,if_true,x1,x2,x3,true_and,false_and,if_false,contN,xv16,restS,xv24]
     repeat' split
     all_goals omega
    ·by_cases g2:192 ≤ c.toNat
     ·have x1:c.toNat / 32=6:=by omega
      have x2:¬ c.toNat / 16=14:=by omega
      have x3:¬ c.toNat / 8=30:=by omega
      simp only [g4,g3,g2,if_true,x1,x2,x3,true_and,false_and,if_false,contN,xv16,restS,xv24]
      repeat' split
      all_goals omega
     ·have x1:¬ c.toNat / 32=6:=by omega
      have x2:¬ c.toNat / 16=14:=by omega
      have x3:¬ c.toNat / 8=30:=by omega
      have g1:128 ≤ c.toNat:=by omega
      simp only [g4,g3,g2,g1,if_true,x1,x2,x3,false_and,if_false]
  | d::e::f::r =>
   have hd:=d.toNat_lt
   have he:=e.toNat_lt
   have hf:=f.toNat_lt
   have n1:1 < (c::d::e::f::r).length:=by simp
   have n2:2 < (c::d::e::f::r).length:=by simp
   have n3:3 < (c::d::e::f::r).length:=by simp
   have l3:¬ (d::e::f::r).length < 3:=by simp
   have l2:¬ (d::e::f::r).length < 2:=by simp
   have l1:¬ (d::e::f::r).length < 1:=by simp
   generalize (c::d::e::f::r).length=n at n1 n2 n3
   simp only [sgn,decodeN,List.getD_cons_zero,List.getD_cons_succ,h128,if_false,n1,n2,n3,l1,l2,l3,true_and,or_false]
   by_cases g4:240 ≤ c.toNat
   ·have x1:¬ c.toNat / 32=6:=by omega
    have x2:¬ c.toNat / 16=14:=by omega
    simp only [g4,if_true,x1,x2,false_and,if_false,contN,xv16,restS,xv24]
    repeat' split
    all_goals omega
   ·by_cases g3:224 ≤ c.toNat
    ·have x1:¬ c.toNat / 32=6:=by omega
     have x2:c.toNat / 16=14:=by omega
     have x3:¬ c.toNat / 8=30:=by omega
     simp only [g4,g3,if_true,x1,x2,x3,true_and,false_and,if_false,contN,xv16,restS,xv24]
     repeat' split
     all_goals omega
    ·by_cases g2:192 ≤ c.toNat
     ·have x1:c.toNat / 32=6:=by omega
      have x2:¬ c.toNat / 16=14:=by omega
      have x3:¬ c.toNat / 8=30:=by omega
      simp only [g4,g3,g2,if_true,x1,x2,x3,true_and,false_and,if_false,contN,xv16,restS,xv24]
      repeat' split
      all_goals omega
     ·have x1:¬ c.toNat / 32=6:=by omega
      have x2:¬ c.toNat / 16=14:=by omega
      have x3:¬ c.toNat / 8=30:=by omega
      have g1:128 ≤ c.toNat:=by omega
      simp only [g4,g3,g2,g1,if_true,x1,x2,x3,false_and,if_false]
end Go.Rv
namespace Go.Rv
open Go.Lib
theorem xv155:∀ (l:List UInt8) (c:UInt8),-1 ≤ indexByte l c∧(0 ≤ indexByte l c ↔ c ∈ l)
 | [],c=>by simp [indexByte]
 | b::l,c=>by
  obtain ⟨h1,h2⟩:=xv155 l c
  simp only [indexByte]
  by_cases hb:b=c
  ·subst hb;simp
  ·have e1:(b == c)=false:=by simpa using hb
   have e2:c ∈ b::l ↔ c ∈ l:=by
    rw [List.mem_cons]
    exact ⟨fun h=>h.resolve_left (fun e=>hb e.symm),Or.inr⟩
   rw [e1,e2,← h2]
   simp only [Bool.false_eq_true,if_false]
   by_cases hi:indexByte l c=-1
   ·rw [hi];simp
   ·have e3:(indexByte l c == -1)=false:=by simpa using hi
    rw [e3]
    simp only [Bool.false_eq_true,if_false]
    omega
def good (l:List UInt8):Bool:=validD l && !decide ((0:UInt8) ∈ l)
theorem xv124 (s:List UInt8):fn91 s=some (decide (s.length ≤ 65535) && good s):=by
 simp only [fn91,good]
 by_cases h:s.length ≤ 65535
 ·rw [if_pos (by simpa using by omega)]
  simp only [fn23]
  rw [if_pos (by omega),Option.bind_some]
  cases hv:validD s with
  | false=>simp
  | true =>
   rw [if_pos rfl]
   simp only [fn24,Option.bind_some]
   have:=(xv155 s 0).2
   by_cases h0:(0:UInt8) ∈ s
   ·simp [h0,this.2 h0,h]
   ·simp [h0,mt this.1 h0,h]
 ·rw [if_neg (by simpa using by omega)]
  simp [h]
theorem xv104:∀ (k n:Nat) (l:List UInt8) (m:Nat),contN k n l=some m->∀ b ∈ l.take k,b.toNat / 64=2
 | 0,n,l,m,h=>by simp
 | k + 1,n,[],m,h=>by simp [contN] at h
 | k + 1,n,c::l,m,h=>by
  simp only [contN] at h
  split at h
  ·rename_i hc
   intro b hb
   rw [List.take_succ_cons,List.mem_cons] at hb
   rcases hb with rfl|hb
   ·exact hc
   ·exact xv104 k _ l m h b hb
  ·cases h
theorem xv172 {z least:Nat} {o:Option Nat} (h:0 < restN z least o):∃ m,o=some m∧restN z least o=z∧least ≤ m:=by
 cases o with
 | none=>simp [restN] at h
 | some m =>
  simp only [restN] at h ⊢
  split at h
  ·omega
  ·exact ⟨m,rfl,by rw [if_neg (by assumption)],by omega⟩
theorem xv279 (l:List UInt8) (h:0 < sgn l):∀ b ∈ l.take (sgn l),b ≠ 0:=by
 cases l with
 | nil=>simp [sgn] at h
 | cons c t =>
  have key:∀ k n least z,z=k + 1->0 < restN z least (contN k n t)->c.toNat ≠ 0->∀ b ∈ (c::t).take (restN z least (contN k n t)),b ≠ 0:=by
   intro k n least z hz hp hc b hb
   obtain ⟨m,h1,h2,_⟩:=xv172 hp
   rw [h2,hz,List.take_succ_cons,List.mem_cons] at hb
   rcases hb with rfl|hb
   ·intro e;rw [e] at hc;exact hc rfl
   ·have:=xv104 k n t m h1 b hb
    intro e;rw [e] at this;simp at this
  simp only [sgn] at h ⊢
  by_cases h1:240 ≤ c.toNat
  ·rw [if_pos h1] at h ⊢
   by_cases q:248 ≤ c.toNat∨t.length < 3
   ·rw [if_pos q] at h;omega
   ·rw [if_neg q] at h ⊢
    exact key 3 _ _ 4 rfl h (by omega)
  ·rw [if_neg h1] at h ⊢
   by_cases h2:224 ≤ c.toNat
   ·rw [if_pos h2] at h ⊢
    by_cases q:t.length < 2
    ·rw [if_pos q] at h;omega
    ·rw [if_neg q] at h ⊢
     exact key 2 _ _ 3 rfl h (by omega)
   ·rw [if_neg h2] at h ⊢
    by_cases h3:192 ≤ c.toNat
    ·rw [if_pos h3] at h ⊢
     by_cases q:t.length < 1
     ·rw [if_pos q] at h;omega
     ·rw [if_neg q] at h ⊢
      exact key 1 _ _ 2 rfl h (by omega)
    ·rw [if_neg h3] at h ⊢
     by_cases h4:128 ≤ c.toNat
     ·rw [if_pos h4] at h;omega
     ·rw [if_neg h4] at h ⊢
      obtain ⟨m,e1,e2,e3⟩:=xv172 h
      have:=key 0 c.toNat 1 1 rfl h (by cases e1;omega)
      exact this
theorem xv116 (z least:Nat) (o:Option Nat):restN z least o ≤ z:=by
 cases o with
 | none=>simp [restN]
 | some m=>simp only [restN];split<;>omega
theorem xv320 (l:List UInt8):sgn l ≤ l.length:=by
 cases l with
 | nil=>simp [sgn]
 | cons c t =>
  have a4:=xv116 4 65536 (contN 3 (c.toNat - 240) t)
  have a3:=xv116 3 2048 (contN 2 (c.toNat - 224) t)
  have a2:=xv116 2 128 (contN 1 (c.toNat - 192) t)
  have a1:=xv116 1 1 (some c.toNat)
  simp only [sgn,List.length_cons]
  repeat' split
  all_goals omega
theorem xv55 (c:UInt8) (t:List UInt8):good (c::t)=if sgn (c::t)=0 then false else good ((c::t).drop (sgn (c::t))):=by
 have hs:=xv226 c t
 have hv:=validD_step (c::t) (by simp)
 by_cases h0:sgn (c::t)=0
 ·rw [if_pos h0]
  rw [h0] at hs
  by_cases hd:decodeL (c::t)=(65533,1)
  ·simp [good,hv,hd]
  ·by_cases hc:c.toNat=0
   ·have:c=0:=by rw [← UInt8.toNat_inj];exact hc
    simp [good,this]
   ·rw [if_neg (by simp [hd,hc])] at hs
    have:=decodeL_width (c::t)
    omega
 ·rw [if_neg h0]
  have ht:=xv279 (c::t) (by omega)
  by_cases hd:decodeL (c::t)=(65533,1)∨c.toNat=0
  ·rw [if_pos hd] at hs;exact absurd hs h0
  ·rw [if_neg hd] at hs
   have h1:¬ ((decodeL (c::t)).1=65533∧(decodeL (c::t)).2=1):=fun e=>hd (Or.inl (Prod.ext e.1 e.2))
   rw [if_neg h1,← hs] at hv
   simp only [good,hv]
   congr 2
   have:(0:UInt8) ∈ (c::t) ↔ (0:UInt8) ∈ (c::t).drop (sgn (c::t)):=by
    constructor
    ·intro h
     rw [← List.take_append_drop (sgn (c::t)) (c::t),List.mem_append] at h
     rcases h with h|h
     ·exact absurd rfl (ht 0 h)
     ·exact h
    ·exact List.mem_of_mem_drop
   exact decide_eq_decide.2 this
theorem xv179 (s:List UInt8) (hl:s.length ≤ 65535):∀ (f p n:Nat),s.length - p ≤ f->p ≤ s.length->n ≤ p->iter (fn121_l0 s) ((n:Int),(p:Int))=some (if good (s.drop p) then .inr ((n + runeCountFrom ⟨s.toArray⟩ f p:Nat):Int) else .inl ()):=by
 intro f
 induction f with
 | zero =>
  intro p n hf hp hn
  rw [yv700]
  simp only [fn121_l0,fn121_b0]
  rw [if_neg (by simp;omega),List.drop_of_length_le (by omega)]
  rfl
 | succ f ih =>
  intro p n hf hp hn
  rw [yv700]
  simp only [fn121_l0,fn121_b0]
  by_cases hlt:p < s.length
  ·rw [if_pos (by simp;omega)]
   obtain ⟨v,hv⟩:=xv322 s p (by omega) hlt
   rw [hv,Option.bind_some]
   have hg:=xv55 s[p] (s.drop (p + 1))
   have hs:=xv226 s[p] (s.drop (p + 1))
   rw [← List.drop_eq_getElem_cons hlt] at hg hs
   have hdl:decodeL (s.drop p)=Utf8.decode ⟨s.toArray⟩ p:=by
    have:=decodeL_drop ⟨s.toArray⟩ p
    simpa using this
   have hw:=decodeL_width (s.drop p)
   simp only
   by_cases h0:sgn (s.drop p)=0
   ·rw [if_pos (by simp [h0]),hg,if_pos h0];rfl
   ·rw [if_neg (by simp;omega),hg,if_neg h0]
    have e2:sgn (s.drop p)=(Utf8.decode ⟨s.toArray⟩ p).2:=by
     rw [hs] at h0 ⊢
     split at h0
     ·exact absurd rfl h0
     ·rename_i hh
      rw [if_neg hh,hdl]
    have hle:p + sgn (s.drop p) ≤ s.length:=by
     have h3:(s.drop p).length=s.length - p:=List.length_drop
     have h4:=xv320 (s.drop p)
     omega
    have e3:w64 ((n:Int) + 1)=((n + 1:Nat):Int):=by rw [xv0 (by omega) (by omega)];simp
    have e4:w64 ((p:Int) + (sgn (s.drop p):Int))=((p + sgn (s.drop p):Nat):Int):=by rw [xv0 (by omega) (by omega)];simp
    rw [e3,e4]
    refine (ih (p + sgn (s.drop p)) (n + 1) (by omega) hle (by omega)).trans ?_
    rw [List.drop_drop]
    have e5:runeCountFrom ⟨s.toArray⟩ (f + 1) p=1 + runeCountFrom ⟨s.toArray⟩ f (p + sgn (s.drop p)):=by
     rw [runeCountFrom,if_pos (by show p < (List.toArray s).size;simpa using hlt),e2]
    rw [e5,← Nat.add_assoc]
  ·rw [if_neg (by simp;omega),List.drop_of_length_le (by omega),runeCountFrom_end _ _ _ (by show ¬ p < (List.toArray s).size;simpa using hlt)]
   rfl
theorem xv209 (s:List UInt8) (hl:s.length ≤ 65535):fn121 s=some (if good s then (runeCount ⟨s.toArray⟩:Int) else -1):=by
 simp only [fn121]
 have h:=xv179 s hl s.length 0 0 (by omega) (by omega) (by omega)
 rw [show (((0:Nat):Int))=0 from rfl] at h
 rw [if_neg (by simp;omega),h,List.drop_zero,Nat.zero_add]
 have e:runeCountFrom ⟨s.toArray⟩ s.length 0=runeCount ⟨s.toArray⟩:=by
  simp only [runeCount]
  rw [show ByteArray.size ⟨s.toArray⟩=s.length from List.size_toArray]
 rw [e]
 cases good s<;>rfl
theorem xv32 (s:List UInt8) (hl:s.length ≤ 65535):fn122 s=some (good s):=by
 simp only [fn122]
 rw [xv209 s hl]
 cases good s<;>simp
end Go.Rv
namespace Go.Rv
theorem xv56 {α:Type} {l:List α} {a b:Nat} (h1:a ≤ b) (h2:b ≤ l.length):slc l (a:Int) (b:Int)=some ((l.take b).drop a):=by
 simp only [slc,Int.toNat_natCast]
 rw [if_pos ⟨by omega,by omega,by omega⟩]
theorem xv33 (s:List UInt8) (h:s.length ≤ 9000):fn91 s=some (good s):=by
 rw [xv124,decide_eq_true (by omega),Bool.true_and]
theorem xv328 {n:Nat} (h:n ≤ 9223372036854775807):w64 (n:Int)=n:=xv0 (by omega) (by omega)
theorem u8_toNat' {x:Int}:(u8 x).toNat=(x % 256).toNat:=by
 have:=yv484 x;omega
theorem u16_toNat' {x:Int}:(u16 x).toNat=(x % 65536).toNat:=by
 simp only [u16,UInt16.toNat_ofNat']
 have h:=Int.emod_lt_of_pos x (show (0:Int) < 65536 by decide)
 omega
theorem u32_toNat' {x:Int}:(u32 x).toNat=(x % 4294967296).toNat:=by
 simp only [u32,UInt32.toNat_ofNat']
 have h:=Int.emod_lt_of_pos x (show (0:Int) < 4294967296 by decide)
 omega
theorem u64_toNat' {x:Int}:(u64 x).toNat=(x % 18446744073709551616).toNat:=by
 simp only [u64,UInt64.toNat_ofNat']
 have h:=Int.emod_lt_of_pos x (show (0:Int) < 18446744073709551616 by decide)
 omega
theorem xv65 {a:UInt32} {y:Nat} (hy:y ≤ 32):(yv472 a (y:Int)).toNat=a.toNat / 2 ^ y:=by
 simp only [yv472,u32_toNat',Int.toNat_natCast,Nat.min_eq_left hy]
 have:((a.toNat:Int) / 2 ^ y)=((a.toNat / 2 ^ y:Nat):Int):=by simp
 rw [this]
 have h:=a.toNat_lt
 have:a.toNat / 2 ^ y ≤ a.toNat:=Nat.div_le_self _ _
 generalize a.toNat / 2 ^ y=q at this ⊢
 omega
theorem xv141 {a:UInt16} {y:Nat} (hy:y ≤ 16):(yv471 a (y:Int)).toNat=a.toNat / 2 ^ y:=by
 simp only [yv471,u16_toNat',Int.toNat_natCast,Nat.min_eq_left hy]
 have:((a.toNat:Int) / 2 ^ y)=((a.toNat / 2 ^ y:Nat):Int):=by simp
 rw [this]
 have h:=a.toNat_lt
 have:a.toNat / 2 ^ y ≤ a.toNat:=Nat.div_le_self _ _
 generalize a.toNat / 2 ^ y=q at this ⊢
 omega
theorem hi7 (c:UInt8):(c ||| (128:UInt8)).toNat=c.toNat % 128 + 128:=by
 have h:∀ n:Fin 256,((UInt8.ofNat n.val) ||| (128:UInt8)).toNat=n.val % 128 + 128:=by decide +kernel
 have:=h ⟨c.toNat,c.toNat_lt⟩
 simpa using this
theorem eq8 {c d:UInt8}:c=d ↔ c.toNat=d.toNat:=⟨fun h=>by rw [h],fun h=>UInt8.toNat_inj.1 h⟩
theorem chk_d {p:Prop} [Decidable p] (h:p):chk (decide p)=some ():=by simp [chk,h]
theorem xv187 {α:Type} {l:List α} {a:Nat} (h:a ≤ l.length):slc l (a:Int) (l.length:Int)=some (l.drop a):=by
 rw [xv56 h (Nat.le_refl _),List.take_length]
theorem xv14 {α:Type} {n:Nat} {x:List α} {y:Option (List α)} (h1:(x.length + (L y).length) * n ≤ room) (h2:x.length + (L y).length ≤ room):appO n (some x) y=some (some (x++L y)):=by
 simp only [appO]
 rw [if_pos ⟨h1,h2⟩]
theorem xv143 {α:Type} {n:Nat} {a:α} {l:List α} (h1:(l.length + 1) * n ≤ room) (h2:l.length + 1 ≤ room):appO n none (some (a::l))=some (some (a::l)):=by
 simp only [appO,L,Option.getD_some]
 rw [if_pos ⟨h1,h2⟩]
theorem xv21 {α:Type} {n:Nat} {x:Option (List α)} {a:α} {l:List α} (h1:((L x).length + l.length + 1) * n ≤ room) (h2:(L x).length + l.length + 1 ≤ room):appO n x (some (a::l))=some (some (L x++a::l)):=by
 cases x with
 | none=>simp only [L,Option.getD_none,List.length_nil,Nat.zero_add,List.nil_append] at h1 h2 ⊢;exact xv143 h1 h2
 | some x=>exact xv14 (y:=some (a::l)) (by simpa [L,Nat.add_assoc] using h1) (by simpa [L,Nat.add_assoc] using h2)
end Go.Rv
namespace Go.Rv
open Go.Lib
theorem xv2 {α:Type} (l:List α):L (some l)=l:=rfl
def wild (s:List UInt8):Bool:=s.contains 43 || s.contains 35
theorem xv259 (s:List UInt8) (c:UInt8) (hl:s.length ≤ 70000):∀ (f i:Nat),s.length - i ≤ f->i ≤ s.length->iter (fn167_l0 s c) (i:Int)=some (if (s.drop i).contains c then .inl () else .inr ()):=by
 intro f
 induction f with
 | zero =>
  intro i h1 h2
  rw [yv700]
  simp only [fn167_l0,fn167_b0]
  rw [if_neg (by simp;omega),show s.drop i=[] from List.drop_eq_nil_of_le (by omega)]
  rfl
 | succ f ih =>
  intro i h1 h2
  rw [yv700]
  simp only [fn167_l0,fn167_b0]
  by_cases hlt:i < s.length
  ·rw [if_pos (by simp;omega),xv1,List.getElem?_eq_getElem hlt,Option.bind_some,List.drop_eq_getElem_cons hlt]
   by_cases hc:s[i]=c
   ·rw [if_pos (by simpa using hc)]
    simp [hc]
   ·rw [if_neg (by simpa using hc)]
    have e:w64 ((i:Int) + 1)=((i + 1:Nat):Int):=by rw [xv0 (by omega) (by omega)];simp
    have hb:(c == s[i])=false:=by simpa using Ne.symm hc
    rw [e]
    refine (ih (i + 1) (by omega) (by omega)).trans ?_
    rw [List.contains_cons,hb,Bool.false_or]
  ·rw [if_neg (by simp;omega),show s.drop i=[] from List.drop_eq_nil_of_le (by omega)]
   rfl
theorem xv300 (s:List UInt8) (c:UInt8) (hl:s.length ≤ 70000):fn167 s c=some (s.contains c):=by
 simp only [fn167]
 have:=xv259 s c hl s.length 0 (by omega) (by omega)
 rw [show ((0:Nat):Int)=0 from rfl] at this
 rw [this,List.drop_zero]
 cases s.contains c<;>rfl
theorem xv169 (s:List UInt8) (hl:s.length ≤ 70000):fn151 s=some (wild s):=by
 simp only [fn151,xv300 _ _ hl,Option.bind_some,wild]
 cases s.contains 43<;>simp
theorem xv230:∀ s:List UInt8,containsAny s [43,35]=wild s:=by
 intro s
 induction s with
 | nil=>rfl
 | cons b l ih =>
  have h:=indexAny_ge [43,35] l
  simp only [containsAny,wild] at ih ⊢
  rw [indexAny]
  by_cases hb:([43,35]:List UInt8).contains b=true
  ·rw [if_pos hb]
   simp at hb
   rcases hb with rfl|rfl<;>simp
  ·rw [if_neg hb]
   simp at hb
   have n1:¬ (43:UInt8)=b:=fun e=>hb.1 e.symm
   have n2:¬ (35:UInt8)=b:=fun e=>hb.2 e.symm
   simp only [List.contains_cons,beq_iff_eq,n1,n2,decide_false,Bool.false_or] at ih ⊢
   rw [show ((43:UInt8) == b)=false by simpa using n1,show ((35:UInt8) == b)=false by simpa using n2,Bool.false_or,Bool.false_or,← ih]
   by_cases hm:indexAny l [43,35]=-1
   ·rw [hm];rfl
   ·rw [if_neg (by simpa using hm)]
    exact decide_eq_decide.2 (by omega)
theorem xv102 (s:List UInt8) (hl:s.length ≤ 70000):fn94 s=some (wild s):=by
 simp only [fn94,fn17]
 rw [if_true,if_pos (by omega),Option.bind_some,xv230]
def lv:List UInt8->List (List UInt8)
 | []=>[[]]
 | b::t=>if b=47 then []::lv t else match lv t with
  | []=>[[b]]
  | x::l=>(b::x)::l
theorem xv70 (b c:UInt8) (l:List UInt8):index (b::l) [c]=if b=c then 0 else if index l [c]=-1 then -1 else index l [c] + 1:=by
 rw [index]
 by_cases h:b=c
 ·subst h;simp [List.isPrefixOf]
 ·simp [List.isPrefixOf,h,Ne.symm h]
theorem xv280:∀ s:List UInt8,splitK [47] 0 (count s [47]) s=lv s:=by
 intro s
 induction s with
 | nil=>rfl
 | cons b t ih =>
  by_cases h:b=47
  ·subst h
   rw [count_cons_eq,Nat.add_comm,splitK]
   have e:index (47::t) [47]=0:=by rw [xv70,if_pos rfl]
   rw [e,if_neg (by decide)]
   simp only [lv,if_true]
   rw [← ih];rfl
  ·rw [count_cons_ne b 47 t h]
   simp only [lv,if_neg h]
   rw [← ih]
   have hge:=index_ge t [47]
   have hix:index (b::t) [47]=if index t [47]=-1 then -1 else index t [47] + 1:=by rw [xv70,if_neg h]
   cases hk:count t [47] with
   | zero=>rfl
   | succ k =>
    have hm:index t [47] ≠ -1:=fun e=>by rw [count_miss e] at hk;cases hk
    obtain ⟨j,hj⟩:∃ j:Nat,index t [47]=j:=⟨(index t [47]).toNat,by omega⟩
    simp only [splitK]
    rw [hix,if_neg hm,hj]
    rw [if_neg (by simp;omega),if_neg (by simp)]
    simp only
    rw [show ((j:Int) + 1).toNat=j + 1 by omega,Int.toNat_natCast]
    simp [Nat.add_right_comm]
theorem xv213 (s:List UInt8) (hl:s.length ≤ 70000):fn52 s [47]=some (some (lv s)):=by
 simp only [fn52]
 rw [if_pos (by omega),splitB_data]
 exact congrArg (fun l=>some (some l)) (xv280 s)
end Go.Rv
namespace Go.Rv
open Go.Lib
theorem lv_ne:∀ s,lv s ≠ []
 | []=>by simp [lv]
 | b::t=>by
  simp only [lv]
  split
  ·simp
  ·split<;>simp
def lvp (p t:List UInt8):List (List UInt8):=match lv t with
 | []=>[p]
 | x::l=>(p++x)::l
theorem xv304 (p:List UInt8):lvp p []=[p]:=by simp [lvp,lv]
theorem xv336 (p t:List UInt8):lvp p (47::t)=p::lv t:=by simp [lvp,lv]
theorem xv335 (p t:List UInt8) (b:UInt8) (h:b ≠ 47):lvp p (b::t)=lvp (p++[b]) t:=by
 simp only [lvp,lv,if_neg h]
 cases lv t<;>simp
theorem lvp_0 (t:List UInt8):lvp [] t=lv t:=by
 have:=lv_ne t
 simp only [lvp]
 cases h:lv t<;>simp_all
theorem xv266:∀ s,(lv s).length ≤ s.length + 1
 | []=>by simp [lv]
 | b::t=>by
  have:=xv266 t
  simp only [lv]
  split
  ·simp;omega
  ·split
   ·simp
   ·rename_i h;rw [h] at this;simp at this ⊢;omega
theorem xv44 {s:List UInt8} {a i:Nat} (h1:a ≤ i) (h2:i < s.length):(s.take (i + 1)).drop a=(s.take i).drop a++[s[i]]:=by
 rw [List.take_succ_eq_append_getElem h2,List.drop_append_of_le_length (by simp;omega)]
theorem xv136 (s:List UInt8) (hl:s.length ≤ 70000):∀ (f:Nat) (o:Option (List (List UInt8))) (a i:Nat),s.length + 1 - i ≤ f->a ≤ i->i ≤ s.length->(L o).length ≤ i ->
 iter (fn101_l0 s) (o,(a:Int),(i:Int))=some (some (L o++lvp ((s.take i).drop a) (s.drop i))):=by
 intro f
 induction f with
 | zero=>intro o a i h1 h2 h3 h4;omega
 | succ f ih =>
  intro o a i h1 h2 h3 h4
  rw [yv700]
  simp only [fn101_l0,fn101_b0]
  have e:w64 ((i:Int) + 1)=((i + 1:Nat):Int):=by rw [xv0 (by omega) (by omega)];simp
  have happ:appO 16 o (some [(s.take i).drop a])=some (some (L o++[(s.take i).drop a])):=by
   have:=xv21 (n:=16) (x:=o) (a:=(s.take i).drop a) (l:=[]) (by simp [room];omega) (by simp [room];omega)
   simpa using this
  rw [if_pos (by simp;omega)]
  by_cases hi:i=s.length
  ·subst hi
   rw [if_pos (by simp)]
   simp only [fn101_c1,if_true]
   rw [xv56 h2 (Nat.le_refl _),Option.bind_some,happ,Option.bind_some,e]
   have hend:∀ z:Option (List (List UInt8)) × Int × Int,z.2.2=((s.length + 1:Nat):Int)->iter (fn101_l0 s) z=some z.1:=by
    intro z hz
    rw [yv700]
    simp only [fn101_l0,fn101_b0]
    rw [if_neg (by rw [hz];simp;omega)]
   refine (hend _ rfl).trans ?_
   rw [List.drop_length,xv304]
  ·have hlt:i < s.length:=by omega
   rw [if_neg (by simp;omega),xv1,List.getElem?_eq_getElem hlt,Option.bind_some,List.drop_eq_getElem_cons hlt]
   simp only [fn101_c1]
   by_cases hc:s[i]=47
   ·rw [if_pos (by simpa using hc),xv56 h2 h3,Option.bind_some,happ,Option.bind_some,e]
    refine (ih _ (i + 1) (i + 1) (by omega) (Nat.le_refl _) hlt (by simp;omega)).trans ?_
    rw [hc,xv336,show (s.take (i + 1)).drop (i + 1)=[] from List.drop_eq_nil_of_le (by simp;omega),lvp_0]
    simp
   ·rw [if_neg (by simpa using hc),e]
    refine (ih o a (i + 1) (by omega) (by omega) hlt (by omega)).trans ?_
    rw [xv335 _ _ _ hc,xv44 h2 hlt]
theorem xv205 (s:List UInt8) (hl:s.length ≤ 70000):fn101 s=some (some (lv s)):=by
 simp only [fn101]
 have:=xv136 s hl (s.length + 1) none 0 0 (by omega) (by omega) (by omega) (by simp)
 rw [show ((0:Nat):Int)=0 from rfl] at this
 rw [this]
 simp [lvp_0]
def nameB (s:List UInt8):Bool:=!decide (s=[]) && good s && !wild s
theorem xv101 (s:List UInt8) (hl:s.length ≤ 9000):fn95 s=some (nameB s):=by
 simp only [fn95,xv33 s hl,xv102 s (by omega),nameB,Option.bind_some]
 by_cases h:s=[]
 ·simp [h]
 ·cases good s<;>simp [h]
theorem xv96 (s:List UInt8) (hl:s.length ≤ 9000):fn152 s=some (nameB s):=by
 simp only [fn152,xv32 s (by omega),xv169 s (by omega),nameB,Option.bind_some]
 by_cases h:s=[]
 ·simp [h]
 ·have:decide ((s.length:Int) > 0)=true:=by
   have:s.length ≠ 0:=fun e=>h (List.length_eq_zero_iff.1 e)
   exact decide_eq_true (by omega)
  cases good s<;>simp [h]
end Go.Rv
namespace Go.Rv
open Go.Lib
def okL (x:List UInt8) (last:Bool):Bool:=decide (x=[43]) || (decide (x=[35]) && last) || !wild x
def xv40:List (List UInt8)->Bool
 | []=>true
 | x::l=>okL x l.isEmpty && xv40 l
def xv74 (s:List UInt8):Bool:=!decide (s=[]) && xv40 (lv s)
theorem xv27:∀ (s x:List UInt8),x ∈ lv s->x.length ≤ s.length
 | [],x,h=>by simp [lv] at h;simp [h]
 | b::t,x,h=>by
  simp only [lv] at h
  split at h
  ·rcases List.mem_cons.1 h with rfl|h
   ·simp
   ·have:=xv27 t x h;simp;omega
  ·split at h
   ·rename_i e;exact absurd e (lv_ne t)
   ·rename_i y l e
    rcases List.mem_cons.1 h with rfl|h
    ·have:=xv27 t y (by rw [e];simp);simp;omega
    ·have:=xv27 t x (by rw [e];simp [h]);simp;omega
theorem xv53 {α:Type} (l:List α) (i:Nat) (h:i < l.length):(l.drop (i + 1)).isEmpty=decide (i + 1=l.length):=by
 rw [Bool.eq_iff_iff]
 simp [List.isEmpty_iff]
 omega
theorem xv142 (l:List (List UInt8)) (hl:l.length ≤ 70000) (hx:∀ x ∈ l,x.length ≤ 70000):∀ (f i:Nat),l.length - i ≤ f->i ≤ l.length ->
 iter (fn77_l0 (some l) (some l) (l.length:Int)) (i:Int)=some (if xv40 (l.drop i) then .inr () else .inl ()):=by
 intro f
 induction f with
 | zero =>
  intro i h1 h2
  rw [yv700]
  simp only [fn77_l0,fn77_b0]
  rw [if_neg (by simp;omega),show l.drop i=[] from List.drop_eq_nil_of_le (by omega)]
  rfl
 | succ f ih =>
  intro i h1 h2
  rw [yv700]
  simp only [fn77_l0,fn77_b0,xv2]
  by_cases hlt:i < l.length
  ·have hw:=xv102 l[i] (hx _ (List.getElem_mem hlt))
   have e:w64 ((i:Int) + 1)=((i + 1:Nat):Int):=by rw [xv0 (by omega) (by omega)];simp
   have e2:w64 ((l.length:Int) - 1)=((l.length - 1:Nat):Int):=by rw [xv0 (by omega) (by omega)];omega
   have ih:=ih (i + 1) (by omega) (by omega)
   have hemp:=xv53 l i hlt
   rw [if_pos (by simp;omega),xv1,List.getElem?_eq_getElem hlt,Option.bind_some,List.drop_eq_getElem_cons hlt,e]
   simp only [e2,xv40,okL,hemp,fn77_c1,hw,Option.bind_some]
   generalize l[i]=x at hw ⊢
   by_cases h43:x=[43]
   ·rw [if_pos (by simpa using h43),if_pos (by simpa using h43)]
    refine ih.trans ?_
    simp [h43]
   ·rw [if_neg (by simpa using h43)]
    by_cases h35:x=[35]
    ·rw [if_pos (by simpa using h35)]
     by_cases hlast:i + 1=l.length
     ·rw [if_pos (by simp;omega)]
      refine ih.trans ?_
      simp [h35,hlast]
     ·rw [if_neg (by simp;omega)]
      have:wild x=true:=by rw [h35];rfl
      rw [this,if_pos rfl]
      simp [h43,h35,hlast,show wild [35]=true from rfl]
    ·rw [if_neg (by simpa using h35),if_neg (by decide)]
     cases wild x
     ·rw [if_neg (by decide)]
      refine ih.trans ?_
      simp
     ·rw [if_pos rfl]
      simp [h43,h35]
  ·rw [if_neg (by simp;omega),show l.drop i=[] from List.drop_eq_nil_of_le (by omega)]
   rfl
theorem xv125 (s:List UInt8) (hl:s.length ≤ 9000):fn77 s=some (xv74 s):=by
 simp only [fn77,xv74]
 by_cases h:s=[]
 ·simp [h]
 ·rw [if_neg (by simpa using h),xv213 s (by omega),Option.bind_some]
  have h2:=xv266 s
  have:=xv142 (lv s) (by omega) (fun x hx=>by have:=xv27 s x hx;omega) (lv s).length 0 (by omega) (by omega)
  rw [show ((0:Nat):Int)=0 from rfl] at this
  simp only [xv2]
  rw [this,List.drop_zero]
  simp only [h,decide_false,Bool.not_false,Bool.true_and]
  cases xv40 (lv s)<;>rfl
theorem xv139 (l:List (List UInt8)) (hl:l.length ≤ 70000) (hx:∀ x ∈ l,x.length ≤ 70000):∀ (f i:Nat),l.length - i ≤ f->i ≤ l.length ->
 iter (fn129_l0 (some l)) (i:Int)=some (if xv40 (l.drop i) then .inr () else .inl ()):=by
 intro f
 induction f with
 | zero =>
  intro i h1 h2
  rw [yv700]
  simp only [fn129_l0,fn129_b0,xv2]
  rw [if_neg (by simp;omega),show l.drop i=[] from List.drop_eq_nil_of_le (by omega)]
  rfl
 | succ f ih =>
  intro i h1 h2
  rw [yv700]
  simp only [fn129_l0,fn129_b0,xv2]
  by_cases hlt:i < l.length
  ·have hw:=fun c=>xv300 l[i] c (hx _ (List.getElem_mem hlt))
   have e:w64 ((i:Int) + 1)=((i + 1:Nat):Int):=by rw [xv0 (by omega) (by omega)];simp
   have ih:=ih (i + 1) (by omega) (by omega)
   have hemp:=xv53 l i hlt
   rw [if_pos (by simp;omega)]
   simp only [xv1,List.getElem?_eq_getElem hlt,Option.bind_some,hw]
   rw [List.drop_eq_getElem_cons hlt,e]
   simp only [xv40,okL,hemp,wild]
   generalize l[i]=x at hw ⊢
   by_cases h43:x=[43]
   ·subst h43
    rw [show ([43]:List UInt8).contains 43=true from rfl,show ([43]:List UInt8).contains 35=false from rfl]
    simp only [if_true,decide_true,Bool.not_true,Bool.false_eq_true,if_false]
    refine ih.trans ?_
    simp
   ·by_cases h35:x=[35]
    ·subst h35
     rw [show ([35]:List UInt8).contains 43=false from rfl,show ([35]:List UInt8).contains 35=true from rfl]
     simp only [if_true,decide_true,Bool.not_true,Bool.false_eq_true,if_false]
     by_cases hlast:i + 1=l.length
     ·rw [if_neg (by simp;omega)]
      refine ih.trans ?_
      simp [hlast]
     ·rw [if_pos (by simp;omega)]
      simp [hlast]
    ·simp only [h43,h35,decide_false,Bool.not_false,if_true,Bool.false_or,Bool.false_and]
     cases x.contains 43
     ·simp only [Bool.false_eq_true,if_false,Bool.false_or]
      cases x.contains 35
      ·simp only [Bool.false_eq_true,if_false]
       refine ih.trans ?_
       simp
      ·simp
     ·simp
  ·rw [if_neg (by simp;omega),show l.drop i=[] from List.drop_eq_nil_of_le (by omega)]
   rfl
theorem xv120 (s:List UInt8) (hl:s.length ≤ 9000):fn129 s=some (xv74 s):=by
 simp only [fn129,xv74,xv205 s (by omega),Option.bind_some]
 have h2:=xv266 s
 have:=xv139 (lv s) (by omega) (fun x hx=>by have:=xv27 s x hx;omega) (lv s).length 0 (by omega) (by omega)
 rw [show ((0:Nat):Int)=0 from rfl] at this
 rw [this,List.drop_zero]
 cases xv40 (lv s)
 ·simp
 ·simp only [if_true,Option.bind_some,Bool.and_true]
  congr 1
  by_cases h:s=[]
  ·simp [h]
  ·have:s.length ≠ 0:=fun e=>h (List.length_eq_zero_iff.1 e)
   simp [h];omega
end Go.Rv
namespace Go.Rv
open Go.Lib
abbrev shP:List UInt8:=[36,115,104,97,114,101,47]
def cutO:List UInt8->Option (List UInt8 × List UInt8)
 | []=>none
 | b::t=>if b=47 then some ([],t) else (cutO t).map fun p=>(b::p.1,p.2)
def cutR (t:List UInt8):Option (List UInt8 × List UInt8)->List UInt8 × List UInt8 × Bool
 | none=>(t,[],false)
 | some (a,b)=>(a,b,true)
theorem xv331:∀ t:List UInt8,cut t [47]=cutR t (cutO t):=by
 intro t
 induction t with
 | nil=>rfl
 | cons b t ih =>
  have hge:=index_ge t [47]
  simp only [cut] at ih ⊢
  rw [xv70]
  simp only [cutO]
  by_cases h:b=47
  ·rw [if_pos h];subst h
   rw [if_pos (by decide)]
   simp [cutR]
  ·rw [if_neg h]
   by_cases hm:index t [47]=-1
   ·rw [hm] at ih ⊢
    rw [if_neg (by decide)] at ih
    rw [if_pos rfl,if_neg (by decide)]
    cases hc:cutO t with
    | none=>simp [h,cutR]
    | some p=>rw [hc] at ih;simp [cutR] at ih
   ·rw [if_neg hm]
    obtain ⟨j,hj⟩:∃ j:Nat,index t [47]=j:=⟨(index t [47]).toNat,by omega⟩
    rw [hj] at ih ⊢
    rw [if_pos (by omega)] at ih
    rw [if_pos (by omega)]
    cases hc:cutO t with
    | none=>rw [hc] at ih;simp [cutR] at ih
    | some p =>
     rw [hc] at ih
     simp only [cutR,Prod.mk.injEq,Int.toNat_natCast] at ih
     simp only [h,if_false,Option.map_some,cutR,show ((j:Int) + 1).toNat=j + 1 by omega,List.take_succ_cons,ih.1]
     rw [← ih.2.1]
     simp [Nat.add_right_comm]
theorem xv228 (s:List UInt8) (hl:s.length ≤ 70000):fn78 s [47]=some (cutR s (cutO s)):=by
 simp only [fn78]
 rw [if_pos (by omega),xv331]
theorem xv299 (s p:List UInt8) (hl:s.length ≤ 70000) (hp:p.length ≤ 100):fn6 s p=some (decide (s.take p.length=p)):=by
 simp only [fn6]
 by_cases h:p.length ≤ s.length
 ·rw [if_pos (by simp;omega)]
  have:=xv56 (l:=s) (a:=0) (b:=p.length) (by omega) h
  rw [show ((0:Nat):Int)=0 from rfl] at this
  rw [this];rfl
 ·rw [if_neg (by simp;omega)]
  congr 1
  symm
  apply decide_eq_false
  intro e
  have:=congrArg List.length e
  simp at this
  omega
theorem xv218 (s:List UInt8) (hl:s.length ≤ 70000):fn21 s shP=some (if s.take 7=shP then (s.drop 7,true) else (s,false)):=by
 simp only [fn21,fn7,xv299 s shP hl (by decide),Option.bind_some,show shP.length=7 from rfl]
 by_cases h:s.take 7=shP
 ·have h7:7 ≤ s.length:=by
   have:=congrArg List.length h
   simp at this;omega
  simp only [h,decide_true,Bool.not_true,Bool.false_eq_true,if_false,if_true]
  rw [show ((7:Nat):Int)=7 from rfl]
  have:=xv187 (l:=s) (a:=7) h7
  rw [show ((7:Nat):Int)=7 from rfl] at this
  rw [this];rfl
 ·simp [h]
def shr (s:List UInt8):Option (Option (List UInt8 × List UInt8)):=if s.take 7=shP then some (cutO (s.drop 7)) else none
def shrR:Option (Option (List UInt8 × List UInt8))->List UInt8 × List UInt8 × Bool
 | none=>([],[],false)
 | some none=>([],[],true)
 | some (some (a,b))=>(a,b,true)
theorem xv186 (s:List UInt8) (hl:s.length ≤ 70000):∀ (f i:Nat),s.length - i ≤ f->7 ≤ i->i ≤ s.length ->
 (cutO (s.drop i)=none->iter (fn128_l0 s) (i:Int)=some (.inr ()))∧∀ a b,cutO (s.drop i)=some (a,b)->∃ v,iter (fn128_l0 s) (i:Int)=some (.inl ((s.take i).drop 7++a,b,v)):=by
 intro f
 induction f with
 | zero =>
  intro i h1 h7 h2
  rw [yv700]
  simp only [fn128_l0,fn128_b0]
  rw [if_neg (by simp;omega),show s.drop i=[] from List.drop_eq_nil_of_le (by omega)]
  exact ⟨fun _=>rfl,fun a b h=>by cases h⟩
 | succ f ih =>
  intro i h1 h7 h2
  rw [yv700]
  simp only [fn128_l0,fn128_b0]
  by_cases hlt:i < s.length
  ·have e:w64 ((i:Int) + 1)=((i + 1:Nat):Int):=by rw [xv0 (by omega) (by omega)];simp
   rw [if_pos (by simp;omega),xv1,List.getElem?_eq_getElem hlt,Option.bind_some,List.drop_eq_getElem_cons hlt]
   simp only [cutO]
   by_cases hc:s[i]=47
   ·rw [if_pos hc,if_pos (by simpa using hc)]
    refine ⟨fun h=>(by cases h),fun a b h=>?_⟩
    cases h
    have hs:=xv56 (l:=s) (a:=7) (b:=i) h7 h2
    rw [show ((7:Nat):Int)=7 from rfl] at hs
    have hf:=xv187 (l:=s) (a:=i + 1) (by omega)
    rw [hs,Option.bind_some,e,hf,Option.bind_some]
    exact ⟨_,by rw [List.append_nil]⟩
   ·rw [if_neg hc,if_neg (by simpa using hc),e]
    obtain ⟨n1,n2⟩:=ih (i + 1) (by omega) (by omega) hlt
    refine ⟨fun h=>n1 (by simpa using h),fun a b h=>?_⟩
    cases hq:cutO (s.drop (i + 1)) with
    | none=>rw [hq] at h;cases h
    | some p =>
     rw [hq] at h
     cases h
     obtain ⟨v,hv⟩:=n2 p.1 p.2 hq
     refine ⟨v,hv.trans ?_⟩
     rw [xv44 h7 hlt,List.append_assoc];rfl
  ·rw [if_neg (by simp;omega),show s.drop i=[] from List.drop_eq_nil_of_le (by omega)]
   exact ⟨fun _=>rfl,fun a b h=>by cases h⟩
theorem xv185 (s:List UInt8) (hl:s.length ≤ 70000):fn128 s=some (shrR (shr s)):=by
 simp only [fn128,shr]
 by_cases h7:s.length < 7
 ·have:s.take 7 ≠ shP:=fun e=>by
   have:=congrArg List.length e
   simp at this;omega
  rw [if_pos (by simp;omega),if_neg this];rfl
 ·have hs:=xv56 (l:=s) (a:=0) (b:=7) (by omega) (by omega)
  rw [show ((0:Nat):Int)=0 from rfl,show ((7:Nat):Int)=7 from rfl,List.drop_zero] at hs
  rw [if_neg (by simp;omega),hs,Option.bind_some]
  by_cases h:s.take 7=shP
  ·rw [if_neg (by simp [h]),if_pos h]
   obtain ⟨n1,n2⟩:=xv186 s hl s.length 7 (by omega) (by omega) (by omega)
   rw [show ((7:Nat):Int)=7 from rfl] at n1 n2
   cases hc:cutO (s.drop 7) with
   | none=>rw [n1 hc];rfl
   | some p =>
    obtain ⟨v,hv⟩:=n2 p.1 p.2 hc
    rw [hv]
    simp [shrR]
  ·rw [if_pos (by simp [h]),if_neg h];rfl
theorem xv91:∀ {t a b:List UInt8},cutO t=some (a,b)->a.length ≤ t.length∧b.length ≤ t.length
 | [],a,b,h=>by cases h
 | x::t,a,b,h=>by
  simp only [cutO] at h
  split at h
  ·cases h;simp
  ·cases hq:cutO t with
   | none=>rw [hq] at h;cases h
   | some p =>
    rw [hq] at h;cases h
    have:=xv91 (a:=p.1) (b:=p.2) hq
    simp;omega
theorem xv321 {s a b:List UInt8} (h:shr s=some (some (a,b))):a.length ≤ s.length∧b.length ≤ s.length:=by
 simp only [shr] at h
 split at h
 ·have:=xv91 (Option.some.inj h)
  simp at this;omega
 ·cases h
def shrF (s:List UInt8):Option (Option (List UInt8 × List UInt8))->Bool
 | none=>xv74 s
 | some none=>false
 | some (some (a,b))=>!decide (a=[]) && !wild a && xv74 b
def xv12 (s:List UInt8):Bool:=good s && shrF s (shr s)
theorem xv81 (s:List UInt8) (hl:s.length ≤ 9000):fn102 s=some (xv12 s):=by
 simp only [fn102,xv32 s (by omega),xv185 s (by omega),Option.bind_some,xv12]
 cases good s with
 | false=>simp
 | true =>
  simp only [Bool.not_true,Bool.false_eq_true,if_false,Bool.true_and]
  cases hs:shr s with
  | none=>simp [shrR,shrF,xv120 s hl]
  | some q =>
   cases q with
   | none=>simp [shrR,shrF]
   | some p =>
    obtain ⟨a,b⟩:=p
    have hlen:=xv321 hs
    simp only [shrR,shrF,if_true,xv169 a (by omega),xv120 b (by omega),Option.bind_some]
    by_cases ha:a=[]
    ·simp [ha]
    ·have:a.length ≠ 0:=fun e=>ha (List.length_eq_zero_iff.1 e)
     rw [if_pos (by simp;omega)]
     simp only [ha,decide_false,Bool.not_false,Bool.true_and]
     cases wild a<;>simp
theorem xv85 (s:List UInt8) (hl:s.length ≤ 9000):fn65 s=some (xv12 s):=by
 simp only [fn65,xv33 s hl,xv218 s (by omega),Option.bind_some,xv12]
 cases good s with
 | false=>simp
 | true =>
  simp only [Bool.not_true,Bool.false_eq_true,if_false,Bool.true_and]
  by_cases h:s.take 7=shP
  ·have hs:shr s=some (cutO (s.drop 7)):=if_pos h
   rw [if_pos h,hs]
   simp only [Bool.not_true,Bool.false_eq_true,if_false]
   rw [xv228 _ (by simp;omega),Option.bind_some]
   cases hc:cutO (s.drop 7) with
   | none=>simp [cutR,shrF]
   | some p =>
    obtain ⟨a,b⟩:=p
    have hlen:=xv91 hc
    simp at hlen
    simp only [cutR,shrF,if_true,xv102 a (by omega),xv125 b (by omega),Option.bind_some]
    by_cases ha:a=[]
    ·simp [ha]
    ·simp only [ha,decide_false,Bool.not_false,Bool.true_and,if_true]
     cases wild a<;>simp
  ·have hs:shr s=none:=if_neg h
   rw [if_neg h,hs]
   simp [shrF,xv125 s hl]
def xv23 (s:List UInt8):List UInt8 × List UInt8 × Bool:=match shr s with
 | some (some (a,b))=>if xv12 s then (a,b,true) else ([],[],false)
 | _=>([],[],false)
theorem xv82 (s:List UInt8) (hl:s.length ≤ 9000):fn103 s=some (xv23 s):=by
 simp only [fn103,xv185 s (by omega),Option.bind_some,xv81 s hl,xv23]
 cases hs:shr s with
 | none=>rfl
 | some q =>
  cases q with
  | none =>
   have:xv12 s=false:=by simp [xv12,hs,shrF]
   simp [shrR,this]
  | some p =>
   obtain ⟨a,b⟩:=p
   simp only [shrR]
   cases xv12 s<;>rfl
theorem xv188 (s:List UInt8) (hl:s.length ≤ 9000):fn66 s=some (xv23 s):=by
 simp only [fn66,xv218 s (by omega),Option.bind_some,xv85 s hl,xv23]
 by_cases h:s.take 7=shP
 ·have hs:shr s=some (cutO (s.drop 7)):=if_pos h
  rw [if_pos h]
  simp only [Bool.not_true,Bool.false_eq_true,if_false]
  have hf:xv12 s=(good s && shrF s (shr s)):=rfl
  rw [hs] at hf ⊢
  rw [xv228 _ (by simp;omega)]
  cases hc:cutO (s.drop 7) with
  | none =>
   rw [hc] at hf
   have:xv12 s=false:=by rw [hf];simp [shrF]
   simp [this]
  | some p =>
   obtain ⟨a,b⟩:=p
   cases xv12 s<;>rfl
 ·have hs:shr s=none:=if_neg h
  rw [if_neg h,hs];rfl
end Go.Rv
namespace Go.Rv
open Go.Lib
theorem all8 {p:UInt8->Prop} (h:∀ n:Fin 256,p (UInt8.ofNat n.val)):∀ x,p x:=by
 intro x
 have:=h ⟨x.toNat,x.toNat_lt⟩
 simpa using this
theorem xv229:iter fn92_l0 ((some []),1)=some (some [1,2,3,4,5,6,7,8,9,10,11,14,15,16]):=by
 rw [yv741 17 (by kernel_rfl)]
 kernel_rfl
def typeT (id:UInt8):Int:=(fn149 id).getD 0
def xv71 (id:UInt8):Option (List Int):=(fn125 id).getD none
theorem xv99:∀ id,fn149 id=some (typeT id):=by
 refine all8 ?_
 have:∀ n:Fin 256,(fn149 (UInt8.ofNat n.val)).isSome=true:=by decide +kernel
 intro n
 obtain ⟨v,hv⟩:=Option.isSome_iff_exists.1 (this n)
 rw [typeT,hv];rfl
theorem xv211:∀ id,fn125 id=some (xv71 id):=by
 refine all8 ?_
 have:∀ n:Fin 256,(fn125 (UInt8.ofNat n.val)).isSome=true:=by decide +kernel
 intro n
 obtain ⟨v,hv⟩:=Option.isSome_iff_exists.1 (this n)
 rw [xv71,hv];rfl
theorem xv316:∀ id,fn92 id=some ⟨typeT id,xv71 id⟩:=by
 intro id
 simp only [fn92,xv229,Option.bind_some]
 revert id
 refine all8 ?_
 decide +kernel
theorem xv95 (id:UInt8):fn115 id=some (typeT id):=by simp only [fn115,xv316,Option.bind_some]
theorem xv106:∀ id,(L (xv71 id)).length ≤ 20:=by
 refine all8 ?_
 decide +kernel
theorem xv156 (o:Option (List Int)) (k:Int) (hl:(L o).length ≤ 70000):∀ (f i:Nat),(L o).length - i ≤ f->i ≤ (L o).length ->
 (((L o).drop i).contains k=true->∃ j:Nat,iter (fn15_l0 o k ((L o).length:Int)) (i:Int)=some (.inl (j:Int)))∧(((L o).drop i).contains k=false->iter (fn15_l0 o k ((L o).length:Int)) (i:Int)=some (.inr ())):=by
 intro f
 induction f with
 | zero =>
  intro i h1 h2
  rw [yv700]
  simp only [fn15_l0,fn15_b0]
  rw [if_neg (by simp;omega),show (L o).drop i=[] from List.drop_eq_nil_of_le (by omega)]
  exact ⟨fun h=>(by cases h),fun _=>rfl⟩
 | succ f ih =>
  intro i h1 h2
  rw [yv700]
  simp only [fn15_l0,fn15_b0]
  by_cases hlt:i < (L o).length
  ·have e:w64 ((i:Int) + 1)=((i + 1:Nat):Int):=by rw [xv0 (by omega) (by omega)];simp
   rw [if_pos (by simp;omega),xv1,List.getElem?_eq_getElem hlt,Option.bind_some,List.drop_eq_getElem_cons hlt,List.contains_cons]
   by_cases hc:k=(L o)[i]
   ·rw [if_pos (by simpa using hc)]
    refine ⟨fun _=>⟨i,rfl⟩,fun h=>?_⟩
    rw [show (k == (L o)[i])=true by simpa using hc] at h
    cases h
   ·rw [if_neg (by simpa using hc),show (k == (L o)[i])=false by simpa using hc,Bool.false_or,e]
    exact ih (i + 1) (by omega) hlt
  ·rw [if_neg (by simp;omega),show (L o).drop i=[] from List.drop_eq_nil_of_le (by omega)]
   exact ⟨fun h=>(by cases h),fun _=>rfl⟩
theorem xv90 (o:Option (List Int)) (k:Int) (hl:(L o).length ≤ 70000):fn13 o k=some ((L o).contains k):=by
 simp only [fn13,fn15]
 have:=xv156 o k hl (L o).length 0 (by omega) (by omega)
 rw [show ((0:Nat):Int)=0 from rfl,List.drop_zero] at this
 cases hc:(L o).contains k with
 | true =>
  obtain ⟨j,hj⟩:=this.1 hc
  rw [hj]
  show some (decide ((j:Int) ≥ 0))=some true
  rw [decide_eq_true (by omega)]
 | false=>rw [this.2 hc];rfl
def forB (id:UInt8) (k:Int):Bool:=(L (xv71 id)).contains k
theorem xv223 (id:UInt8) (k:Int):fn141 id k=some (forB id k):=by
 have:=xv106 id
 simp only [fn141,xv316,Option.bind_some,xv90 _ k (show (L (xv71 id)).length ≤ 70000 by omega),forB]
theorem xv258 (o:Option (List Int)) (k:Int) (hl:(L o).length ≤ 70000):∀ (f i:Nat),(L o).length - i ≤ f->i ≤ (L o).length ->
 iter (fn168_l0 k o) (i:Int)=some (if ((L o).drop i).contains k then .inl () else .inr ()):=by
 intro f
 induction f with
 | zero =>
  intro i h1 h2
  rw [yv700]
  simp only [fn168_l0,fn168_b0]
  rw [if_neg (by simp;omega),show (L o).drop i=[] from List.drop_eq_nil_of_le (by omega)]
  rfl
 | succ f ih =>
  intro i h1 h2
  rw [yv700]
  simp only [fn168_l0,fn168_b0]
  by_cases hlt:i < (L o).length
  ·have e:w64 ((i:Int) + 1)=((i + 1:Nat):Int):=by rw [xv0 (by omega) (by omega)];simp
   rw [if_pos (by simp;omega),xv1,List.getElem?_eq_getElem hlt,Option.bind_some,List.drop_eq_getElem_cons hlt,List.contains_cons]
   by_cases hc:(L o)[i]=k
   ·rw [if_pos (by simpa using hc),show (k == (L o)[i])=true by simpa using hc.symm]
    rfl
   ·rw [if_neg (by simpa using hc),show (k == (L o)[i])=false by simpa using fun e=>hc e.symm,Bool.false_or,e]
    exact ih (i + 1) (by omega) hlt
  ·rw [if_neg (by simp;omega),show (L o).drop i=[] from List.drop_eq_nil_of_le (by omega)]
   rfl
theorem xv118 (id:UInt8) (k:Int):fn168 id k=some (forB id k):=by
 have h:=xv106 id
 simp only [fn168,xv211,Option.bind_some,forB]
 have:=xv258 (xv71 id) k (by omega) (L (xv71 id)).length 0 (by omega) (by omega)
 rw [show ((0:Nat):Int)=0 from rfl,List.drop_zero] at this
 rw [this]
 cases (L (xv71 id)).contains k<;>rfl
def xv45 (id:UInt8) (k:Int):Bool:=forB id k && (decide (id=38) || (decide (id=11) && decide (k=3)))
theorem xv207 (id:UInt8) (k:Int):fn97 id k=some (xv45 id k):=by
 simp only [fn97,xv223,Option.bind_some,xv45]
 cases forB id k<;>cases decide (id=38)<;>cases decide (id=11)<;>simp
theorem xv119 (id:UInt8) (k:Int):fn126 id k=some (xv45 id k):=by
 simp only [fn126,xv118,Option.bind_some,xv45]
 cases forB id k<;>cases decide (id=38)<;>cases decide (id=11)<;>simp
def xv20 (id:UInt8) (n:UInt32) (a b:List UInt8):Bool :=
 if typeT id=1 then decide (n < 256) && (decide (a=[]) && decide (b=[]))
 else if typeT id=2 then decide (n < 65536) && (decide (a=[]) && decide (b=[]))
 else if typeT id=3 then decide (a=[]) && decide (b=[])
 else if typeT id=4 then decide (n < 268435456) && (decide (a=[]) && decide (b=[]))
 else if typeT id=5 then decide (n=0) && good a && decide (b=[])
 else if typeT id=6 then decide (n=0) && decide (b=[])
 else if typeT id=7 then decide (n=0) && good a && good b
 else false
theorem le32 (n:UInt32):decide (n ≤ (268435455:UInt32))=decide (n < (268435456:UInt32)):=by
 rw [Bool.eq_iff_iff]
 simp only [decide_eq_true_eq,UInt32.le_iff_toNat_le,UInt32.lt_iff_toNat_lt]
 show n.toNat ≤ 268435455 ↔ n.toNat < 268435456
 omega
theorem xv110 (p:fn140) (ha:p.A.length ≤ 9000) (hb:p.B.length ≤ 9000):fn93 p=some (xv20 p.Id p.N p.A p.B):=by
 have hla:decide ((p.A.length:Int) ≤ 65535)=true:=decide_eq_true (by omega)
 simp only [fn93,fn93_c0,xv95,Option.bind_some,xv33 _ ha,xv33 _ hb,xv20,le32,hla]
 generalize typeT p.Id=t
 by_cases h1:t=1<;>by_cases h2:t=2<;>by_cases h3:t=3<;>by_cases h4:t=4<;>by_cases h5:t=5<;>by_cases h6:t=6<;>by_cases h7:t=7<;>(try (exfalso;omega)) <;>
  simp only [h1,h2,h3,h4,h5,h6,h7,decide_true,decide_false,if_true,if_false,Bool.false_eq_true] <;>
  cases decide (p.A=[])<;>cases decide (p.B=[])<;>cases decide (p.N=0)<;>cases decide (p.N < 256)<;>cases decide (p.N < 65536)<;>cases decide (p.N < 268435456)<;>cases good p.A<;>cases good p.B<;>simp
theorem xv121 (p:fn163) (ha:p.A.length ≤ 9000) (hb:p.B.length ≤ 9000):fn123 p=some (xv20 p.Id p.N p.A p.B):=by
 have hla:decide ((p.A.length:Int) ≤ 65535)=true:=decide_eq_true (by omega)
 simp only [fn123,fn123_c0,xv99,Option.bind_some,xv32 _ (show p.A.length ≤ 65535 by omega),xv32 _ (show p.B.length ≤ 65535 by omega),xv20,hla]
 generalize typeT p.Id=t
 by_cases h1:t=1<;>by_cases h2:t=2<;>by_cases h3:t=3<;>by_cases h4:t=4<;>by_cases h5:t=5<;>by_cases h6:t=6<;>by_cases h7:t=7<;>(try (exfalso;omega)) <;>
  simp only [h1,h2,h3,h4,h5,h6,h7,decide_true,decide_false,if_true,if_false,Bool.false_eq_true] <;>
  cases decide (p.A=[])<;>cases decide (p.B=[])<;>cases decide (p.N=0)<;>cases decide (p.N < 256)<;>cases decide (p.N < 65536)<;>cases decide (p.N < 268435456)<;>cases good p.A<;>cases good p.B<;>simp
end Go.Rv
namespace Go.Rv
open Go.Lib
theorem type1:∀ id,decide (typeT id=1)=(decide (id=1) || decide (id=23) || decide (id=25) || decide (id=36) || decide (id=37) || decide (id=40) || decide (id=41) || decide (id=42)):=by
 refine all8 ?_
 decide +kernel
def valB (id:UInt8) (n:UInt32) (a:List UInt8):Bool :=
 if typeT id=1 then decide (n < 2)
 else if decide (id=11) || decide (id=33) || decide (id=35) || decide (id=39) then !decide (n=0)
 else if id=8 then nameB a
 else true
def xv36 (id:UInt8) (n:UInt32) (a b:List UInt8):Bool:=xv20 id n a b && valB id n a
theorem le1 (n:UInt32):decide (n ≤ (1:UInt32))=decide (n < (2:UInt32)):=by
 rw [Bool.eq_iff_iff]
 simp only [decide_eq_true_eq,UInt32.le_iff_toNat_le,UInt32.lt_iff_toNat_lt]
 show n.toNat ≤ 1 ↔ n.toNat < 2
 omega
theorem xv208 (p:fn140) (ha:p.A.length ≤ 9000) (hb:p.B.length ≤ 9000):fn96 p=some (xv36 p.Id p.N p.A p.B):=by
 simp only [fn96,fn96_c0,xv110 p ha hb,xv95,Option.bind_some,le1,xv101 p.A ha,xv36,valB]
 cases xv20 p.Id p.N p.A p.B with
 | false=>simp
 | true =>
  simp only [Bool.not_true,Bool.false_eq_true,if_false,Bool.true_and]
  by_cases h1:typeT p.Id=1
  ·simp [h1]
  ·simp only [h1,decide_false,Bool.false_eq_true,if_false]
   by_cases a11:p.Id=11
   ·simp [a11]
   ·by_cases a33:p.Id=33
    ·simp [a33]
    ·by_cases a35:p.Id=35
     ·simp [a35]
     ·by_cases a39:p.Id=39
      ·simp [a39]
      ·by_cases a8:p.Id=8<;>simp [a11,a33,a35,a39,a8]
theorem xv212 (p:fn163) (ha:p.A.length ≤ 9000) (hb:p.B.length ≤ 9000):fn124 p=some (xv36 p.Id p.N p.A p.B):=by
 have ht:=type1 p.Id
 simp only [fn124,fn124_c0,fn124_c1,xv121 p ha hb,Option.bind_some,xv96 p.A ha,xv36,valB]
 cases xv20 p.Id p.N p.A p.B with
 | false=>simp
 | true =>
  simp only [Bool.not_true,Bool.false_eq_true,if_false,Bool.true_and]
  by_cases h1:typeT p.Id=1
  ·rw [if_pos h1]
   rw [decide_eq_true h1] at ht
   by_cases b1:p.Id=1
   ·simp [b1]
   ·by_cases b2:p.Id=23
    ·simp [b2]
    ·by_cases b3:p.Id=25
     ·simp [b3]
     ·by_cases b4:p.Id=36
      ·simp [b4]
      ·by_cases b5:p.Id=37
       ·simp [b5]
       ·by_cases b6:p.Id=40
        ·simp [b6]
        ·by_cases b7:p.Id=41
         ·simp [b7]
         ·by_cases b8:p.Id=42
          ·simp [b8]
          ·simp [b1,b2,b3,b4,b5,b6,b7,b8] at ht
  ·rw [if_neg h1]
   rw [decide_eq_false h1] at ht
   have ht:=ht.symm
   simp only [Bool.or_eq_false_iff,decide_eq_false_iff_not] at ht
   obtain ⟨⟨⟨⟨⟨⟨⟨b1,b2⟩,b3⟩,b4⟩,b5⟩,b6⟩,b7⟩,b8⟩:=ht
   simp only [b1,b2,b3,b4,b5,b6,b7,b8,decide_false,Bool.false_eq_true,if_false]
   by_cases a11:p.Id=11
   ·simp [a11]
   ·by_cases a33:p.Id=33
    ·simp [a33]
    ·by_cases a35:p.Id=35
     ·simp [a35]
     ·by_cases a39:p.Id=39
      ·simp [a39]
      ·by_cases a8:p.Id=8<;>simp [a11,a33,a35,a39,a8]
end Go.Rv
namespace Go.Rv
def runL {σ α β:Type} (g:σ->α->σ ⊕ β) (e:σ->β):σ->List α->β
 | s,[]=>e s
 | s,a::l=>match g s a with
  | .inl s'=>runL g e s' l
  | .inr b=>b
def stepL {Z σ β:Type} (mk:σ->Int->Z) (i:Nat):σ ⊕ β->Z ⊕ β
 | .inl s'=>.inl (mk s' ((i + 1:Nat):Int))
 | .inr b=>.inr b
theorem xv19 {Z σ β α:Type} (l:List α) (step:Z->Option (Z ⊕ β)) (mk:σ->Int->Z) (g:σ->α->σ ⊕ β) (e:σ->β) (I:Nat->σ->Prop)
 (hin:∀ s i (h:i < l.length),I i s->step (mk s (i:Int))=some (stepL mk i (g s l[i])))
 (hI:∀ s i (h:i < l.length) s',I i s->g s l[i]=.inl s'->I (i + 1) s')
 (hout:∀ s,I l.length s->step (mk s (l.length:Int))=some (.inr (e s))) (s:σ) (h0:I 0 s) :
 iter step (mk s 0)=some (runL g e s l):=by
 have key:∀ (f i:Nat) (s:σ),l.length - i ≤ f->i ≤ l.length->I i s->iter step (mk s (i:Int))=some (runL g e s (l.drop i)):=by
  intro f
  induction f with
  | zero =>
   intro i s h1 h2 h3
   have:i=l.length:=by omega
   subst this
   rw [yv700,hout s h3,List.drop_length]
   rfl
  | succ f ih =>
   intro i s h1 h2 h3
   by_cases hlt:i < l.length
   ·rw [yv700,hin s i hlt h3,List.drop_eq_getElem_cons hlt]
    simp only [runL]
    cases hg:g s l[i] with
    | inl s'=>exact ih (i + 1) s' (by omega) hlt (hI s i hlt s' h3 hg)
    | inr b=>rfl
   ·have:i=l.length:=by omega
    subst this
    rw [yv700,hout s h3,List.drop_length]
    rfl
 exact key l.length 0 s (by omega) (by omega) h0
theorem xv3 {i:Nat} (h:i < 9223372036854775807):w64 ((i:Int) + 1)=((i + 1:Nat):Int):=by
 rw [xv0 (by omega) (by omega)];simp
def mapO {α β:Type} (f:α->β) (o:Option (List α)):Option (List β):=if (L o).isEmpty then none else some ((L o).map f)
theorem xv132 {α β:Type} (f:α->β) (o:Option (List α)):L (mapO f o)=(L o).map f:=by
 simp only [mapO]
 split
 ·rename_i h
  rw [List.isEmpty_iff.1 h]
  rfl
 ·rfl
def accL {α β:Type} (f:α->β) (s:Option (List β)) (a:α):Option (List β) ⊕ Option (List β):=.inl (some (L s++[f a]))
theorem xv177 {α β:Type} (f:α->β):∀ (l:List α) (s:Option (List β)),runL (accL f) (fun x=>x) s l=if l.isEmpty then s else some (L s++l.map f)
 | [],s=>rfl
 | a::l,s=>by
  simp only [runL,accL]
  rw [xv177 f l]
  cases l with
  | nil=>rfl
  | cons b l=>simp [L]
end Go.Rv
namespace Go.Rv
def pQ (x:fn163):fn140:=⟨x.Id,x.N,x.A,x.B⟩
def pR (x:fn140):fn163:=⟨x.Id,x.N,x.A,x.B⟩
def fQ (x:fn112):fn59:=⟨x.Text,x.Opt⟩
def fR (x:fn59):fn112:=⟨x.Text,x.Opt⟩
theorem pR_pQ (l:List fn163):(l.map pQ).map pR=l:=by rw [List.map_map];exact List.map_id l
theorem fR_fQ (l:List fn112):(l.map fQ).map fR=l:=by rw [List.map_map];exact List.map_id l
theorem xv325 (o:Option (List fn163)) (h:(L o).length ≤ 1000):l06_To o=some (mapO pQ o):=by
 simp only [l06_To]
 have:=xv19 (L o) (l06_To_l0 o) (fun (s:Option (List fn140)) i=>(s,i)) (accL pQ) (fun x=>x) (fun i s=>(L s).length=i)
  (fun s i hi hI=>by
   simp only [l06_To_l0,l06_To_b0,l05_To]
   rw [if_pos (by simp;omega),xv1,List.getElem?_eq_getElem hi]
   simp only [Option.bind_some]
   rw [xv21 (by have:=hI;simp [room];omega) (by have:=hI;simp [room];omega)]
   simp only [Option.bind_some]
   rw [xv3 (by omega)]
   rfl)
  (fun s i hi s' hI hg=>by
   simp only [accL,Sum.inl.injEq] at hg
   subst hg
   simp [L,← hI])
  (fun s hI=>by
   simp only [l06_To_l0,l06_To_b0]
   rw [if_neg (by simp)])
  none rfl
 rw [this]
 simp only [Option.bind_some,xv177,mapO]
 rfl
def nR (p:fn113):fn113:=⟨p.Kind,p.Dup,p.Retain,p.QoS,p.Id,p.Clean,p.Keep,p.Client,p.HasWill,p.HasUser,p.HasPass,p.WillQoS,p.WillRetain,some (L p.WillProps),p.WillTopic,p.WillLoad,p.User,p.Pass,p.Present,p.Code,p.Topic,p.Load,some (L p.Filters),some (L p.Codes),some (L p.Props)⟩
def nP (p:fn60):fn113:=⟨p.Kind,p.Dup,p.Retain,p.QoS,p.Id,p.Clean,p.Keep,p.Client,p.HasWill,p.HasUser,p.HasPass,p.WillQoS,p.WillRetain,some ((L p.WillProps).map pR),p.WillTopic,p.WillLoad,p.User,p.Pass,p.Present,p.Code,p.Topic,p.Load,some ((L p.Filters).map fR),some (L p.Codes),some ((L p.Props).map pR)⟩
structure FewR (p:fn113):Prop where
 wp:(L p.WillProps).length ≤ 30
 pp:(L p.Props).length ≤ 30
 fl:(L p.Filters).length ≤ 30
 tx:p.Client.length + p.WillTopic.length + p.WillLoad.length + p.User.length + p.Pass.length + p.Topic.length + p.Load.length + (L p.Codes).length ≤ 3000
 ft:∀ f ∈ L p.Filters,f.Text.length ≤ 300
 pt:∀ x ∈ L p.Props,x.A.length ≤ 300∧x.B.length ≤ 300
 wt:∀ x ∈ L p.WillProps,x.A.length ≤ 300∧x.B.length ≤ 300
theorem nif {α:Type} (c:Bool) (x y:α):(if (!c)=true then some x else some y)=some (if c=true then y else x):=by cases c<;>rfl
theorem xv86 {α:Type} (l:List α) (step:Int->Option (Int ⊕ (Unit ⊕ Unit))) (q:α->Bool)
 (hin:∀ i (h:i < l.length),step (i:Int)=some (if q l[i] then .inl ((i + 1:Nat):Int) else .inr (.inl ()))) (hout:step (l.length:Int)=some (.inr (.inr ()))) :
 iter step 0=some (if l.all q then .inr () else .inl ()):=by
 have:=xv19 l step (fun (_:Unit) i=>i) (fun (_:Unit) (a:α)=>if q a then (.inl ():Unit ⊕ (Unit ⊕ Unit)) else .inr (.inl ())) (fun _=>.inr ()) (fun i s=>True)
  (fun s i hi hI=>by rw [hin i hi];cases q l[i]<;>rfl) (fun _ _ _ _ _ _=>trivial) (fun s hI=>hout) () trivial
 rw [this]
 have:∀ l:List α,runL (fun (_:Unit) (a:α)=>if q a then (.inl ():Unit ⊕ (Unit ⊕ Unit)) else .inr (.inl ())) (fun _=>.inr ()) () l=if l.all q then .inr () else .inl ():=by
  intro l
  induction l with
  | nil=>rfl
  | cons a l ih =>
   by_cases hq:q a=true
   ·rw [show (a::l).all q=l.all q by rw [List.all_cons,hq,Bool.true_and]]
    simp only [runL]
    rw [if_pos hq];exact ih
   ·rw [show (a::l).all q=false by rw [List.all_cons,show q a=false by simpa using hq,Bool.false_and]]
    simp only [runL]
    rw [if_neg hq];rfl
 rw [this]
def toP (p:fn113):fn60:=⟨p.Kind,p.Dup,p.Retain,p.QoS,p.Id,p.Clean,p.Keep,p.Client,p.HasWill,p.HasUser,p.HasPass,p.WillQoS,p.WillRetain,mapO pQ p.WillProps,p.WillTopic,p.WillLoad,p.User,p.Pass,p.Present,p.Code,p.Topic,p.Load,mapO fQ p.Filters,some (L p.Codes),mapO pQ p.Props⟩
def wF (p:fn60) (o:Option (List fn59)):fn60:=⟨p.Kind,p.Dup,p.Retain,p.QoS,p.Id,p.Clean,p.Keep,p.Client,p.HasWill,p.HasUser,p.HasPass,p.WillQoS,p.WillRetain,p.WillProps,p.WillTopic,p.WillLoad,p.User,p.Pass,p.Present,p.Code,p.Topic,p.Load,o,p.Codes,p.Props⟩
def accF (s:fn60) (a:fn112):fn60 ⊕ fn60:=.inl (wF s (some (L s.Filters++[fQ a])))
theorem xv178:∀ (l:List fn112) (s:fn60),runL accF (fun x=>x) s l=wF s (if l.isEmpty then s.Filters else some (L s.Filters++l.map fQ))
 | [],s=>rfl
 | a::l,s=>by
  simp only [runL,accF]
  rw [xv178 l]
  cases l with
  | nil=>rfl
  | cons b l=>simp [L,wF]
theorem to_eq (p:fn113) (h1:(L p.WillProps).length ≤ 1000) (h2:(L p.Props).length ≤ 1000) (h3:(L p.Filters).length ≤ 1000) (h4:(L p.Codes).length ≤ 100000):l07_To p=some (toP p):=by
 simp only [l07_To]
 rw [xv325 _ h1]
 simp only [Option.bind_some]
 rw [xv14 (y:=p.Codes) (by simp [room];omega) (by simp [room];omega)]
 simp only [Option.bind_some]
 rw [xv325 _ h2]
 simp only [Option.bind_some]
 have:=xv19 (L p.Filters) (l07_To_l0 p) (fun (s:fn60) i=>(i,s)) accF (fun x=>x) (fun i s=>(L s.Filters).length=i)
  (fun s i hi hI=>by
   simp only [l07_To_l0,l07_To_b0]
   rw [if_pos (by simp;omega),xv1,List.getElem?_eq_getElem hi]
   simp only [Option.bind_some]
   rw [xv21 (by have:=hI;simp [room];omega) (by have:=hI;simp [room];omega)]
   simp only [Option.bind_some]
   rw [xv3 (by omega)]
   rfl)
  (fun s i hi s' hI hg=>by
   simp only [accF,Sum.inl.injEq] at hg
   subst hg
   simp [L,wF,← hI])
  (fun s hI=>by
   simp only [l07_To_l0,l07_To_b0]
   rw [if_neg (by simp)])
 rw [this _ rfl]
 simp only [Option.bind_some,xv178]
 rfl
theorem xv59 (p:fn113):nP (toP p)=nR p:=by
 simp only [nP,toP,nR,xv132,pR_pQ,fR_fQ]
 rfl
theorem xv29 {α:Type} (l m:List α) (hlen:l.length=m.length) (step:Int->Option (Int ⊕ (Unit ⊕ Unit))) (q:α->α->Bool)
 (hin:∀ i (h:i < l.length),step (i:Int)=some (if q l[i] (m[i]'(by omega)) then .inl ((i + 1:Nat):Int) else .inr (.inl ()))) (hout:step (l.length:Int)=some (.inr (.inr ()))) (hq:∀ a b,q a b=true ↔ a=b) :
 ∃ r,iter step 0=some r∧((r=.inr ()∧l=m)∨(r=.inl ()∧l ≠ m)):=by
 have:=xv86 (l.zip m) step (fun x=>q x.1 x.2)
  (fun i hi=>by
   have h1:i < l.length:=by simp at hi;omega
   rw [hin i h1]
   simp)
  (by rw [show (l.zip m).length=l.length by simp;omega];exact hout)
 refine ⟨_,this,?_⟩
 have key:(l.zip m).all (fun x=>q x.1 x.2)=true ↔ l=m:=by
  clear this hin hout
  induction l generalizing m with
  | nil =>
   cases m with
   | nil=>simp
   | cons=>simp at hlen
  | cons a l ih =>
   cases m with
   | nil=>simp at hlen
   | cons b m =>
    rw [List.zip_cons_cons,List.all_cons,Bool.and_eq_true,hq,ih m (by simpa using hlen)]
    simp
 by_cases h:l=m
 ·left;rw [key.2 h];exact ⟨rfl,h⟩
 ·right
  have:(l.zip m).all (fun x=>q x.1 x.2)=false:=by
   cases hh:(l.zip m).all (fun x=>q x.1 x.2) with
   | false=>rfl
   | true=>exact absurd (key.1 hh) h
  rw [this];exact ⟨rfl,h⟩
theorem xv180 (a b:Option (List fn163)) (hl:(L a).length ≤ 100000):fn147 a b=some (decide (L a=L b)):=by
 simp only [fn147]
 by_cases hlen:(L a).length=(L b).length
 ·rw [if_neg (by simp [hlen])]
  obtain ⟨r,e,h⟩:=xv29 (L a) (L b) hlen (fn147_l0 a b) (fun x y=>(decide (x.Id=y.Id)) && ((decide (x.N=y.N)) && ((decide (x.A=y.A)) && (decide (x.B=y.B)))))
   (fun i hi=>by
    simp only [fn147_l0,fn147_b0]
    rw [if_pos (by simp;omega),xv1,xv1,List.getElem?_eq_getElem hi,List.getElem?_eq_getElem (show i < (L b).length by omega),xv3 (by omega)]
    simp only [Option.bind_some]
    exact nif _ _ _)
   (by simp only [fn147_l0,fn147_b0];rw [if_neg (by simp)])
   (fun x y=>by
    obtain ⟨a,b,c,d⟩:=x
    obtain ⟨a',b',c',d'⟩:=y
    simp)
  rw [e]
  rcases h with ⟨rfl,h⟩|⟨rfl,h⟩
  ·rw [decide_eq_true h];rfl
  ·rw [decide_eq_false h];rfl
 ·rw [if_pos (by simp;omega),decide_eq_false (fun h=>hlen (by rw [h]))]
theorem xv181 (a b:Option (List fn140)) (hl:(L a).length ≤ 100000):fn90 a b=some (decide ((L a).map pR=(L b).map pR)):=by
 simp only [fn90,fn4]
 have inj:(L a).map pR=(L b).map pR ↔ L a=L b:=⟨fun h=>by
  have:=congrArg (List.map pQ) h
  rw [List.map_map,List.map_map] at this
  simpa [show (pQ ∘ pR)=id from rfl] using this,fun h=>by rw [h]⟩
 by_cases hlen:(L a).length=(L b).length
 ·rw [if_neg (by simp [hlen])]
  obtain ⟨r,e,h⟩:=xv29 (L a) (L b) hlen (fn4_l0 a b ((L a).length:Int)) (fun x y=>(decide (x.Id=y.Id)) && ((decide (x.N=y.N)) && ((decide (x.A=y.A)) && (decide (x.B=y.B)))))
   (fun i hi=>by
    simp only [fn4_l0,fn4_b0]
    rw [if_pos (by simp;omega),xv1,xv1,List.getElem?_eq_getElem hi,List.getElem?_eq_getElem (show i < (L b).length by omega),xv3 (by omega)]
    simp only [Option.bind_some]
    exact nif _ _ _)
   (by simp only [fn4_l0,fn4_b0];rw [if_neg (by simp)])
   (fun x y=>by
    obtain ⟨a,b,c,d⟩:=x
    obtain ⟨a',b',c',d'⟩:=y
    simp)
  rw [e]
  rcases h with ⟨rfl,h⟩|⟨rfl,h⟩
  ·rw [decide_eq_true (inj.2 h)];rfl
  ·rw [decide_eq_false (fun q=>h (inj.1 q))];rfl
 ·rw [if_pos (by simp;omega),decide_eq_false (fun h=>hlen (by rw [inj.1 h]))]
  rfl
theorem xv275 (a b:Option (List UInt8)) (hl:(L a).length ≤ 100000):fn10 a b=some (decide (L a=L b)):=by
 simp only [fn10]
 by_cases hlen:(L a).length=(L b).length
 ·rw [if_neg (by simp [hlen])]
  obtain ⟨r,e,h⟩:=xv29 (L a) (L b) hlen (fn10_l0 a b ((L a).length:Int)) (fun x y=>decide (x=y))
   (fun i hi=>by
    simp only [fn10_l0,fn10_b0]
    rw [if_pos (by simp;omega),xv1,xv1,List.getElem?_eq_getElem hi,List.getElem?_eq_getElem (show i < (L b).length by omega),xv3 (by omega)]
    simp only [Option.bind_some]
    exact nif _ _ _)
   (by simp only [fn10_l0,fn10_b0];rw [if_neg (by simp)])
   (fun x y=>by simp)
  rw [e]
  rcases h with ⟨rfl,h⟩|⟨rfl,h⟩
  ·rw [decide_eq_true h];rfl
  ·rw [decide_eq_false h];rfl
 ·rw [if_pos (by simp;omega),decide_eq_false (fun h=>hlen (by rw [h]))]
theorem xv276 (a b:Option (List fn59)) (hl:(L a).length ≤ 100000):fn2 a b=some (decide ((L a).map fR=(L b).map fR)):=by
 simp only [fn2]
 have inj:(L a).map fR=(L b).map fR ↔ L a=L b:=⟨fun h=>by
  have:=congrArg (List.map fQ) h
  rw [List.map_map,List.map_map] at this
  simpa [show (fQ ∘ fR)=id from rfl] using this,fun h=>by rw [h]⟩
 by_cases hlen:(L a).length=(L b).length
 ·rw [if_neg (by simp [hlen])]
  obtain ⟨r,e,h⟩:=xv29 (L a) (L b) hlen (fn2_l0 a b ((L a).length:Int)) (fun x y=>(decide (x.Text=y.Text)) && (decide (x.Opt=y.Opt)))
   (fun i hi=>by
    simp only [fn2_l0,fn2_b0]
    rw [if_pos (by simp;omega),xv1,xv1,List.getElem?_eq_getElem hi,List.getElem?_eq_getElem (show i < (L b).length by omega),xv3 (by omega)]
    simp only [Option.bind_some]
    exact nif _ _ _)
   (by simp only [fn2_l0,fn2_b0];rw [if_neg (by simp)])
   (fun x y=>by
    obtain ⟨a,b⟩:=x
    obtain ⟨a',b'⟩:=y
    simp)
  rw [e]
  rcases h with ⟨rfl,h⟩|⟨rfl,h⟩
  ·rw [decide_eq_true (inj.2 h)];rfl
  ·rw [decide_eq_false (fun q=>h (inj.1 q))];rfl
 ·rw [if_pos (by simp;omega),decide_eq_false (fun h=>hlen (by rw [inj.1 h]))]
end Go.Rv
namespace Go.Rv
theorem tif (c d:Bool):(if c=true then some d else some false)=some (c && d):=by cases c<;>rfl
theorem nbif (c d:Bool):(if (!c)=true then some false else some d)=some (c && d):=by cases c<;>rfl
theorem xv337 (a b:fn60):nP a=nP b ↔ (a.Kind=b.Kind∧a.Dup=b.Dup∧a.Retain=b.Retain∧a.QoS=b.QoS∧a.Id=b.Id∧a.Clean=b.Clean∧a.Keep=b.Keep∧a.Client=b.Client∧a.HasWill=b.HasWill∧a.HasUser=b.HasUser∧a.HasPass=b.HasPass∧a.WillQoS=b.WillQoS∧a.WillRetain=b.WillRetain∧(L a.WillProps).map pR=(L b.WillProps).map pR∧a.WillTopic=b.WillTopic∧a.WillLoad=b.WillLoad∧a.User=b.User∧a.Pass=b.Pass∧a.Present=b.Present∧a.Code=b.Code∧a.Topic=b.Topic∧a.Load=b.Load∧(L a.Filters).map fR=(L b.Filters).map fR∧L a.Codes=L b.Codes∧(L a.Props).map pR=(L b.Props).map pR):=by
 simp only [nP,fn113.mk.injEq,Option.some.injEq]
theorem xv267 (a b:fn113):nR a=nR b ↔ (a.Kind=b.Kind∧a.Dup=b.Dup∧a.Retain=b.Retain∧a.QoS=b.QoS∧a.Id=b.Id∧a.Clean=b.Clean∧a.Keep=b.Keep∧a.Client=b.Client∧a.HasWill=b.HasWill∧a.HasUser=b.HasUser∧a.HasPass=b.HasPass∧a.WillQoS=b.WillQoS∧a.WillRetain=b.WillRetain∧L a.WillProps=L b.WillProps∧a.WillTopic=b.WillTopic∧a.WillLoad=b.WillLoad∧a.User=b.User∧a.Pass=b.Pass∧a.Present=b.Present∧a.Code=b.Code∧a.Topic=b.Topic∧a.Load=b.Load∧L a.Filters=L b.Filters∧L a.Codes=L b.Codes∧L a.Props=L b.Props):=by
 simp only [nR,fn113.mk.injEq,Option.some.injEq]
structure FewP (q:fn60):Prop where
 wp:(L q.WillProps).length ≤ 1000
 pp:(L q.Props).length ≤ 1000
 fl:(L q.Filters).length ≤ 1000
 cd:(L q.Codes).length ≤ 100000
theorem xv318 (a b:fn60) (h:FewP a):fn74 a b=some (decide (nP a=nP b)):=by
 have h1:=h.wp;have h2:=h.pp;have h3:=h.fl;have h4:=h.cd
 simp only [fn74,fn35,Option.bind_some]
 rw [xv276 _ _ (by omega)]
 simp only [Option.bind_some]
 rw [xv275 _ _ h4]
 simp only [Option.bind_some]
 rw [xv181 _ _ (by omega)]
 simp only [Option.bind_some]
 rw [xv181 _ _ (by omega)]
 simp only [Option.bind_some,tif]
 congr 1
 rw [Bool.eq_iff_iff]
 simp only [Bool.and_eq_true,decide_eq_true_eq,beq_iff_eq,xv337]
 constructor
 ·rintro ⟨⟨a1,a2,a3,a4,a5,a6,a7,a8,a9,a10,a11,a12,a13,a14,a15,a16,a17,a18,a19,a20,a21⟩,b1,b2,b3,b4⟩
  exact ⟨a1,a2,a3,a10,a13,a4,a14,a15,a6,a7,a8,a11,a5,b4,a16,a17,a18,a19,a9,a12,a20,a21,b1,b2,b3⟩
 ·rintro ⟨a1,a2,a3,a10,a13,a4,a14,a15,a6,a7,a8,a11,a5,b4,a16,a17,a18,a19,a9,a12,a20,a21,b1,b2,b3⟩
  exact ⟨⟨a1,a2,a3,a4,a5,a6,a7,a8,a9,a10,a11,a12,a13,a14,a15,a16,a17,a18,a19,a20,a21⟩,b1,b2,b3,b4⟩
theorem xv274 (a b:fn113) (h1:(L a.WillProps).length ≤ 1000) (h2:(L a.Props).length ≤ 1000) (h3:(L a.Filters).length ≤ 1000):fn148 a b=some (decide (nR a=nR b)):=by
 simp only [fn148]
 rw [xv180 _ _ (by omega)]
 simp only [Option.bind_some]
 rw [xv180 _ _ (by omega)]
 simp only [Option.bind_some]
 by_cases hf:(L a.Filters).length=(L b.Filters).length
 ·rw [if_neg (by simp [hf])]
  obtain ⟨r,e,h⟩:=xv29 (L a.Filters) (L b.Filters) hf (fn148_l0 a b) (fun x y=>(decide (x.Text=y.Text)) && (decide (x.Opt=y.Opt)))
   (fun i hi=>by
    simp only [fn148_l0,fn148_b0]
    rw [if_pos (by simp;omega),xv1,xv1,List.getElem?_eq_getElem hi,List.getElem?_eq_getElem (show i < (L b.Filters).length by omega),xv3 (by omega)]
    simp only [Option.bind_some]
    exact nif _ _ _)
   (by simp only [fn148_l0,fn148_b0];rw [if_neg (by simp)])
   (fun x y=>by
    obtain ⟨a,b⟩:=x
    obtain ⟨a',b'⟩:=y
    simp)
  rw [e]
  rcases h with ⟨rfl,h⟩|⟨rfl,h⟩
  ·simp only [Option.bind_some,nbif,tif]
   congr 1
   rw [Bool.eq_iff_iff]
   simp only [Bool.and_eq_true,decide_eq_true_eq,beq_iff_eq,xv267]
   constructor
   ·rintro ⟨c1,c2,c3,a1,a2,a3,a4,a5,a6,a7,a8,a9,a10,a11,a12,a13,a14,a15,a16,a17,a18,a19,a20,a21⟩
    exact ⟨a1,a2,a3,a4,a5,a6,a7,a8,a9,a10,a11,a12,a13,c3,a14,a15,a16,a17,a18,a19,a20,a21,h,c1,c2⟩
   ·rintro ⟨a1,a2,a3,a4,a5,a6,a7,a8,a9,a10,a11,a12,a13,c3,a14,a15,a16,a17,a18,a19,a20,a21,h,c1,c2⟩
    exact ⟨c1,c2,c3,a1,a2,a3,a4,a5,a6,a7,a8,a9,a10,a11,a12,a13,a14,a15,a16,a17,a18,a19,a20,a21⟩
  ·simp only [Option.bind_some]
   rw [decide_eq_false (fun q=>h ((xv267 a b).1 q).2.2.2.2.2.2.2.2.2.2.2.2.2.2.2.2.2.2.2.2.2.2.1)]
   simp only [nbif,Bool.and_false]
 ·rw [if_pos (by simp;omega),decide_eq_false (fun q=>hf (by rw [((xv267 a b).1 q).2.2.2.2.2.2.2.2.2.2.2.2.2.2.2.2.2.2.2.2.2.2.1]))]
def z0 (p:fn113):fn113:=⟨p.Kind,false,false,0,0,false,0,[],false,false,false,0,false,some [],[],[],[],[],false,0,[],[],some [],some [],some []⟩
def bareN (p:fn113):fn113 :=
 if p.Kind=1 then ⟨p.Kind,false,false,0,0,p.Clean,p.Keep,p.Client,p.HasWill,p.HasUser,p.HasPass,if p.HasWill then p.WillQoS else 0,if p.HasWill then p.WillRetain else false,if p.HasWill then p.WillProps else some [],if p.HasWill then p.WillTopic else [],if p.HasWill then p.WillLoad else [],if p.HasUser then p.User else [],if p.HasPass then p.Pass else [],false,0,[],[],some [],some [],p.Props⟩
 else if p.Kind=2 then { z0 p with Present:=p.Present,Code:=p.Code,Props:=p.Props }
 else if p.Kind=3 then { z0 p with Dup:=p.Dup,QoS:=p.QoS,Retain:=p.Retain,Topic:=p.Topic,Id:=p.Id,Load:=p.Load,Props:=p.Props }
 else if p.Kind=4∨p.Kind=5∨p.Kind=6∨p.Kind=7 then { z0 p with Id:=p.Id,Code:=p.Code,Props:=p.Props }
 else if p.Kind=8∨p.Kind=10 then { z0 p with Id:=p.Id,Filters:=p.Filters,Props:=p.Props }
 else if p.Kind=9∨p.Kind=11 then { z0 p with Id:=p.Id,Codes:=p.Codes,Props:=p.Props }
 else if p.Kind=14∨p.Kind=15 then { z0 p with Code:=p.Code,Props:=p.Props }
 else z0 p
theorem xv285 (q:fn60):∃ b,fn73 q=some b∧nP b=bareN (nP q):=by
 have hk:(nP q).Kind=q.Kind:=rfl
 simp only [fn73]
 by_cases h1:q.Kind=1
 ·rw [if_pos (by simpa using h1)]
  simp only [fn18,fn18_c0,fn18_c1]
  unfold bareN
  rw [if_pos (show (nP q).Kind=1 from h1)]
  obtain ⟨kd,dup,ret,qos,id,cl,kp,ct,hw,hu,hp,wq,wr,wp,wt,wl,us,ps,pr,co,tp,ld,fs,cs,pp⟩:=q
  cases hw<;>cases hu<;>cases hp<;>exact ⟨_,rfl,rfl⟩
 ·rw [if_neg (by simpa using h1)]
  by_cases h2:q.Kind=2
  ·rw [if_pos (by simpa using h2)]
   refine ⟨_,rfl,?_⟩
   unfold bareN
   rw [if_neg (show ¬ (nP q).Kind=1 from h1),if_pos (show (nP q).Kind=2 from h2)]
   rfl
  ·rw [if_neg (by simpa using h2)]
   by_cases h3:q.Kind=3
   ·rw [if_pos (by simpa using h3)]
    refine ⟨_,rfl,?_⟩
    unfold bareN
    rw [if_neg (show ¬ (nP q).Kind=1 from h1),if_neg (show ¬ (nP q).Kind=2 from h2),if_pos (show (nP q).Kind=3 from h3)]
    rfl
   ·rw [if_neg (by simpa using h3)]
    unfold bareN
    rw [if_neg (show ¬ (nP q).Kind=1 from h1),if_neg (show ¬ (nP q).Kind=2 from h2),if_neg (show ¬ (nP q).Kind=3 from h3),hk]
    simp only [fn73_c0,fn73_c1,fn73_c2,fn73_c3]
    by_cases h4:q.Kind=4
    ·rw [if_pos (by simpa using h4),if_pos (by simpa using h4),if_pos (show (q.Kind=4∨q.Kind=5∨q.Kind=6∨q.Kind=7) by omega)];exact ⟨_,rfl,rfl⟩
    ·rw [if_neg (by simpa using h4)]
     by_cases h5:q.Kind=5
     ·rw [if_pos (by simpa using h5),if_pos (by simpa using h5),if_pos (show (q.Kind=4∨q.Kind=5∨q.Kind=6∨q.Kind=7) by omega)];exact ⟨_,rfl,rfl⟩
     ·rw [if_neg (by simpa using h5)]
      by_cases h6:q.Kind=6
      ·rw [if_pos (by simpa using h6),if_pos (by simpa using h6),if_pos (show (q.Kind=4∨q.Kind=5∨q.Kind=6∨q.Kind=7) by omega)];exact ⟨_,rfl,rfl⟩
      ·rw [if_neg (by simpa using h6)]
       by_cases h7:q.Kind=7
       ·rw [if_pos (by simpa using h7),if_pos (show (q.Kind=4∨q.Kind=5∨q.Kind=6∨q.Kind=7) by omega)];exact ⟨_,rfl,rfl⟩
       ·rw [if_neg (by simpa using h7),if_neg (show ¬ (q.Kind=4∨q.Kind=5∨q.Kind=6∨q.Kind=7) by omega)]
        by_cases h8:q.Kind=8
        ·rw [if_pos (by simpa using h8),if_pos (by simpa using h8),if_pos (show (q.Kind=8∨q.Kind=10) by omega)];exact ⟨_,rfl,rfl⟩
        ·rw [if_neg (by simpa using h8)]
         by_cases h10:q.Kind=10
         ·rw [if_pos (by simpa using h10),if_pos (show (q.Kind=8∨q.Kind=10) by omega)];exact ⟨_,rfl,rfl⟩
         ·rw [if_neg (by simpa using h10),if_neg (show ¬ (q.Kind=8∨q.Kind=10) by omega)]
          by_cases h9:q.Kind=9
          ·rw [if_pos (by simpa using h9),if_pos (by simpa using h9),if_pos (show (q.Kind=9∨q.Kind=11) by omega)];exact ⟨_,rfl,rfl⟩
          ·rw [if_neg (by simpa using h9)]
           by_cases h11:q.Kind=11
           ·rw [if_pos (by simpa using h11),if_pos (show (q.Kind=9∨q.Kind=11) by omega)];exact ⟨_,rfl,rfl⟩
           ·rw [if_neg (by simpa using h11),if_neg (show ¬ (q.Kind=9∨q.Kind=11) by omega)]
            by_cases h14:q.Kind=14
            ·rw [if_pos (by simpa using h14),if_pos (by simpa using h14),if_pos (show (q.Kind=14∨q.Kind=15) by omega)];exact ⟨_,rfl,rfl⟩
            ·rw [if_neg (by simpa using h14)]
             by_cases h15:q.Kind=15
             ·rw [if_pos (by simpa using h15),if_pos (show (q.Kind=14∨q.Kind=15) by omega)];exact ⟨_,rfl,rfl⟩
             ·rw [if_neg (by simpa using h15),if_neg (show ¬ (q.Kind=14∨q.Kind=15) by omega)];exact ⟨_,rfl,rfl⟩
theorem xv170 (q:fn113):∃ b,fn146 q=some b∧nR b=bareN (nR q):=by
 have hk:(nR q).Kind=q.Kind:=rfl
 simp only [fn146]
 by_cases h1:q.Kind=1
 ·rw [if_pos (by simpa using h1)]
  simp only [fn146_c0,fn146_c1]
  unfold bareN
  rw [if_pos (show (nR q).Kind=1 from h1)]
  obtain ⟨kd,dup,ret,qos,id,cl,kp,ct,hw,hu,hp,wq,wr,wp,wt,wl,us,ps,pr,co,tp,ld,fs,cs,pp⟩:=q
  cases hw<;>cases hu<;>cases hp<;>exact ⟨_,rfl,rfl⟩
 ·rw [if_neg (by simpa using h1)]
  by_cases h2:q.Kind=2
  ·rw [if_pos (by simpa using h2)]
   refine ⟨_,rfl,?_⟩
   unfold bareN
   rw [if_neg (show ¬ (nR q).Kind=1 from h1),if_pos (show (nR q).Kind=2 from h2)]
   rfl
  ·rw [if_neg (by simpa using h2)]
   by_cases h3:q.Kind=3
   ·rw [if_pos (by simpa using h3)]
    refine ⟨_,rfl,?_⟩
    unfold bareN
    rw [if_neg (show ¬ (nR q).Kind=1 from h1),if_neg (show ¬ (nR q).Kind=2 from h2),if_pos (show (nR q).Kind=3 from h3)]
    rfl
   ·rw [if_neg (by simpa using h3)]
    unfold bareN
    rw [if_neg (show ¬ (nR q).Kind=1 from h1),if_neg (show ¬ (nR q).Kind=2 from h2),if_neg (show ¬ (nR q).Kind=3 from h3),hk]
    simp only [fn146_c2,fn146_c3,fn146_c4,fn146_c5]
    by_cases h4:q.Kind=4
    ·rw [if_pos (by simpa using h4),if_pos (by simpa using h4),if_pos (show (q.Kind=4∨q.Kind=5∨q.Kind=6∨q.Kind=7) by omega)];exact ⟨_,rfl,rfl⟩
    ·rw [if_neg (by simpa using h4)]
     by_cases h5:q.Kind=5
     ·rw [if_pos (by simpa using h5),if_pos (by simpa using h5),if_pos (show (q.Kind=4∨q.Kind=5∨q.Kind=6∨q.Kind=7) by omega)];exact ⟨_,rfl,rfl⟩
     ·rw [if_neg (by simpa using h5)]
      by_cases h6:q.Kind=6
      ·rw [if_pos (by simpa using h6),if_pos (by simpa using h6),if_pos (show (q.Kind=4∨q.Kind=5∨q.Kind=6∨q.Kind=7) by omega)];exact ⟨_,rfl,rfl⟩
      ·rw [if_neg (by simpa using h6)]
       by_cases h7:q.Kind=7
       ·rw [if_pos (by simpa using h7),if_pos (show (q.Kind=4∨q.Kind=5∨q.Kind=6∨q.Kind=7) by omega)];exact ⟨_,rfl,rfl⟩
       ·rw [if_neg (by simpa using h7),if_neg (show ¬ (q.Kind=4∨q.Kind=5∨q.Kind=6∨q.Kind=7) by omega)]
        by_cases h8:q.Kind=8
        ·rw [if_pos (by simpa using h8),if_pos (by simpa using h8),if_pos (show (q.Kind=8∨q.Kind=10) by omega)];exact ⟨_,rfl,rfl⟩
        ·rw [if_neg (by simpa using h8)]
         by_cases h10:q.Kind=10
         ·rw [if_pos (by simpa using h10),if_pos (show (q.Kind=8∨q.Kind=10) by omega)];exact ⟨_,rfl,rfl⟩
         ·rw [if_neg (by simpa using h10),if_neg (show ¬ (q.Kind=8∨q.Kind=10) by omega)]
          by_cases h9:q.Kind=9
          ·rw [if_pos (by simpa using h9),if_pos (by simpa using h9),if_pos (show (q.Kind=9∨q.Kind=11) by omega)];exact ⟨_,rfl,rfl⟩
          ·rw [if_neg (by simpa using h9)]
           by_cases h11:q.Kind=11
           ·rw [if_pos (by simpa using h11),if_pos (show (q.Kind=9∨q.Kind=11) by omega)];exact ⟨_,rfl,rfl⟩
           ·rw [if_neg (by simpa using h11),if_neg (show ¬ (q.Kind=9∨q.Kind=11) by omega)]
            by_cases h14:q.Kind=14
            ·rw [if_pos (by simpa using h14),if_pos (by simpa using h14),if_pos (show (q.Kind=14∨q.Kind=15) by omega)];exact ⟨_,rfl,rfl⟩
            ·rw [if_neg (by simpa using h14)]
             by_cases h15:q.Kind=15
             ·rw [if_pos (by simpa using h15),if_pos (show (q.Kind=14∨q.Kind=15) by omega)];exact ⟨_,rfl,rfl⟩
             ·rw [if_neg (by simpa using h15),if_neg (show ¬ (q.Kind=14∨q.Kind=15) by omega)];exact ⟨_,rfl,rfl⟩
end Go.Rv
namespace Go.Rv
theorem xv135 (o:Option (List UInt8)) (k:UInt8) (hl:(L o).length ≤ 70000):∀ (f i:Nat),(L o).length - i ≤ f->i ≤ (L o).length ->
 (((L o).drop i).contains k=true->∃ j:Nat,iter (fn11_l0 o k ((L o).length:Int)) (i:Int)=some (.inl (j:Int)))∧(((L o).drop i).contains k=false->iter (fn11_l0 o k ((L o).length:Int)) (i:Int)=some (.inr ())):=by
 intro f
 induction f with
 | zero =>
  intro i h1 h2
  rw [yv700]
  simp only [fn11_l0,fn11_b0]
  rw [if_neg (by simp;omega),show (L o).drop i=[] from List.drop_eq_nil_of_le (by omega)]
  exact ⟨fun h=>(by cases h),fun _=>rfl⟩
 | succ f ih =>
  intro i h1 h2
  rw [yv700]
  simp only [fn11_l0,fn11_b0]
  by_cases hlt:i < (L o).length
  ·have e:w64 ((i:Int) + 1)=((i + 1:Nat):Int):=by rw [xv0 (by omega) (by omega)];simp
   rw [if_pos (by simp;omega),xv1,List.getElem?_eq_getElem hlt,Option.bind_some,List.drop_eq_getElem_cons hlt,List.contains_cons]
   by_cases hc:k=(L o)[i]
   ·rw [if_pos (by simpa using hc)]
    refine ⟨fun _=>⟨i,rfl⟩,fun h=>?_⟩
    rw [show (k == (L o)[i])=true by simpa using hc] at h
    cases h
   ·rw [if_neg (by simpa using hc),show (k == (L o)[i])=false by simpa using hc,Bool.false_or,e]
    exact ih (i + 1) (by omega) hlt
  ·rw [if_neg (by simp;omega),show (L o).drop i=[] from List.drop_eq_nil_of_le (by omega)]
   exact ⟨fun h=>(by cases h),fun _=>rfl⟩
theorem xv133 (o:Option (List UInt8)) (k:UInt8) (hl:(L o).length ≤ 70000):fn9 o k=some ((L o).contains k):=by
 simp only [fn9,fn11]
 have:=xv135 o k hl (L o).length 0 (by omega) (by omega)
 rw [show ((0:Nat):Int)=0 from rfl,List.drop_zero] at this
 cases hc:(L o).contains k with
 | true =>
  obtain ⟨j,hj⟩:=this.1 hc
  rw [hj]
  show some (decide ((j:Int) ≥ 0))=some true
  rw [decide_eq_true (by omega)]
 | false=>rw [this.2 hc];rfl
def xv249 (v k:Int):List UInt8:=L ((fn98 v k).getD none)
def knB (v k:Int) (c:UInt8):Bool:=(xv249 v k).contains c
def r03N (v k:Int) (c:UInt8):Option Bool:=(fn130 v k).bind fun x4=>(iterN (fn131_l0 c x4) 20 0).bind fun|.inl _=>some true|.inr _=>some false
theorem xv311 {v k:Int} {c:UInt8} {b:Bool} (h:r03N v k c=some b):fn131 v k c=some b:=by
 simp only [r03N] at h
 simp only [fn131]
 cases hs:fn130 v k with
 | none=>rw [hs] at h;cases h
 | some l =>
  rw [hs] at h
  simp only [Option.bind_some] at h ⊢
  cases hn:iterN (fn131_l0 c l) 20 0 with
  | none=>rw [hn] at h;cases h
  | some r =>
   rw [yv741 20 (by rw [hn];rfl),hn]
   rw [hn] at h
   exact h
def bothK (v k:Int):Prop:=∃ l,fn98 v k=some l∧(L l).length ≤ 1000∧∀ c,r03N v k c=some ((L l).contains c)
theorem xv66 (v k:Int) (h1:fn98 v k=some none) (h2:fn130 v k=some none):bothK v k:=⟨none,h1,by simp [L],fun c=>by
 simp only [r03N,h2,Option.bind_some]
 rfl⟩
theorem xv234:bothK 4 2:=⟨_,rfl,by decide,all8 (by decide +kernel)⟩
theorem xv235:bothK 4 4:=⟨_,rfl,by decide,all8 (by decide +kernel)⟩
theorem xv236:bothK 4 5:=⟨_,rfl,by decide,all8 (by decide +kernel)⟩
theorem xv237:bothK 4 6:=⟨_,rfl,by decide,all8 (by decide +kernel)⟩
theorem xv238:bothK 4 7:=⟨_,rfl,by decide,all8 (by decide +kernel)⟩
theorem xv239:bothK 4 9:=⟨_,rfl,by decide,all8 (by decide +kernel)⟩
theorem xv192:bothK 4 14:=⟨_,rfl,by decide,all8 (by decide +kernel)⟩
theorem xv240:bothK 5 2:=⟨_,rfl,by decide,all8 (by decide +kernel)⟩
theorem xv241:bothK 5 4:=⟨_,rfl,by decide,all8 (by decide +kernel)⟩
theorem xv242:bothK 5 5:=⟨_,rfl,by decide,all8 (by decide +kernel)⟩
theorem xv243:bothK 5 6:=⟨_,rfl,by decide,all8 (by decide +kernel)⟩
theorem xv244:bothK 5 7:=⟨_,rfl,by decide,all8 (by decide +kernel)⟩
theorem xv245:bothK 5 9:=⟨_,rfl,by decide,all8 (by decide +kernel)⟩
theorem xv193:bothK 5 11:=⟨_,rfl,by decide,all8 (by decide +kernel)⟩
theorem xv194:bothK 5 14:=⟨_,rfl,by decide,all8 (by decide +kernel)⟩
theorem xv195:bothK 5 15:=⟨_,rfl,by decide,all8 (by decide +kernel)⟩
theorem both (v k:Int):bothK v k:=by
 by_cases hv:v=4
 ·subst hv
  by_cases h2:k=2
  ·subst h2;exact xv234
  by_cases h4:k=4
  ·subst h4;exact xv235
  by_cases h5:k=5
  ·subst h5;exact xv236
  by_cases h6:k=6
  ·subst h6;exact xv237
  by_cases h7:k=7
  ·subst h7;exact xv238
  by_cases h9:k=9
  ·subst h9;exact xv239
  by_cases h14:k=14
  ·subst h14;exact xv192
  exact xv66 4 k (by simp [fn98,fn50,fn50_c0,h2,h4,h5,h6,h7,h9,h14]) (by simp [fn130,fn130_c0,h2,h4,h5,h6,h7,h9,h14])
 ·by_cases hv5:v=5
  ·subst hv5
   by_cases h2:k=2
   ·subst h2;exact xv240
   by_cases h4:k=4
   ·subst h4;exact xv241
   by_cases h5:k=5
   ·subst h5;exact xv242
   by_cases h6:k=6
   ·subst h6;exact xv243
   by_cases h7:k=7
   ·subst h7;exact xv244
   by_cases h9:k=9
   ·subst h9;exact xv245
   by_cases h11:k=11
   ·subst h11;exact xv193
   by_cases h14:k=14
   ·subst h14;exact xv194
   by_cases h15:k=15
   ·subst h15;exact xv195
   exact xv66 5 k (by simp [fn98,fn63,fn63_c0,fn63_c1,h2,h4,h5,h6,h7,h9,h11,h14,h15]) (by simp [fn130,fn130_c1,fn130_c2,h2,h4,h5,h6,h7,h9,h11,h14,h15])
  ·exact xv66 v k (by simp [fn98,hv,hv5]) (by simp [fn130,hv,hv5])
theorem xv158 (v k:Int) (c:UInt8):fn64 v k c=some (knB v k c):=by
 obtain ⟨l,h1,h2,h3⟩:=both v k
 simp only [fn64,h1,Option.bind_some,knB,xv249,Option.getD_some]
 rw [xv133 l c (by omega)]
 rfl
theorem xv42 (v k:Int) (c:UInt8):fn131 v k c=some (knB v k c):=by
 obtain ⟨l,h1,h2,h3⟩:=both v k
 simp only [knB,xv249,h1,Option.getD_some]
 exact xv311 (h3 c)
end Go.Rv
namespace Go.Rv
def hasId (l:List fn163) (id:UInt8):Bool:=l.any (fun a=>decide (a.Id=id))
def zP:fn163:=⟨0,0,[],[]⟩
def getN (l:List fn163) (id:UInt8):fn163 × Bool:=match l.find? (fun a=>decide (a.Id=id)) with|some a=>(a,true)|none=>(zP,false)
theorem xv52 (l:List fn163) (id:UInt8):(getN l id).2=hasId l id:=by
 simp only [getN,hasId]
 cases h:l.find? (fun a=>decide (a.Id=id)) with
 | none =>
  have:=List.find?_eq_none.1 h
  symm
  simp only [List.any_eq_false]
  exact fun x hx=>this x hx
 | some a =>
  symm
  simp only [List.any_eq_true]
  exact ⟨a,List.mem_of_find?_eq_some h,List.find?_some (p:=fun a:fn163=>decide (a.Id=id)) h⟩
theorem xv220 (id:UInt8):∀ (l:List fn140) (s:Nat),
 ((l.find? (fun a=>decide (a.Id=id))=none)∧runL (fun (s:Nat) (a:fn140)=>if a.Id=id then (.inr (.inl ((s:Int),id)):Nat ⊕ ((Int × UInt8) ⊕ UInt8)) else .inl (s + 1)) (fun _=>.inr id) s l=.inr id) ∨
 (∃ k a,l[k]?=some a∧l.find? (fun a=>decide (a.Id=id))=some a∧runL (fun (s:Nat) (a:fn140)=>if a.Id=id then (.inr (.inl ((s:Int),id)):Nat ⊕ ((Int × UInt8) ⊕ UInt8)) else .inl (s + 1)) (fun _=>.inr id) s l=.inl (((s + k:Nat):Int),id))
 | [],s=>.inl ⟨rfl,rfl⟩
 | a::l,s=>by
  by_cases h:a.Id=id
  ·right
   refine ⟨0,a,rfl,by rw [List.find?_cons,decide_eq_true h],?_⟩
   simp only [runL]
   rw [if_pos h]
   rfl
  ·rcases xv220 id l (s + 1) with ⟨h1,h2⟩|⟨k,x,h1,h2,h3⟩
   ·left
    refine ⟨by rw [List.find?_cons,decide_eq_false h];exact h1,?_⟩
    simp only [runL]
    rw [if_neg h]
    exact h2
   ·right
    refine ⟨k + 1,x,by simpa using h1,by rw [List.find?_cons,decide_eq_false h];exact h2,?_⟩
    simp only [runL]
    rw [if_neg h]
    refine h3.trans ?_
    congr 2
    omega
theorem xv109 (o:Option (List fn140)) (id:UInt8) (hl:(L o).length ≤ 100000):∃ p,fn116 o id=some (p,(getN ((L o).map pR) id).2)∧pR p=(getN ((L o).map pR) id).1:=by
 simp only [fn116,fn3]
 have:=xv19 (L o) (fn3_l0 o ((L o).length:Int)) (fun (_:Nat) i=>(i,id)) (fun (s:Nat) (a:fn140)=>if a.Id=id then (.inr (.inl ((s:Int),id)):Nat ⊕ ((Int × UInt8) ⊕ UInt8)) else .inl (s + 1)) (fun _=>.inr id) (fun i s=>s=i)
  (fun s i hi hI=>by
   subst hI
   simp only [fn3_l0,fn3_b0,fn75]
   rw [if_pos (by simp;omega),xv1,List.getElem?_eq_getElem hi]
   simp only [Option.bind_some]
   by_cases h:(L o)[s].Id=id
   ·rw [if_pos (by simpa using h),if_pos h];rfl
   ·rw [if_neg (by simpa using h),if_neg h,xv3 (by omega)];rfl)
  (fun s i hi s' hI hg=>by
   subst hI
   split at hg
   ·cases hg
   ·simpa using hg.symm)
  (fun s hI=>by
   simp only [fn3_l0,fn3_b0]
   rw [if_neg (by simp)])
  0 rfl
 rw [this]
 have hmap:((L o).map pR).find? (fun a=>decide (a.Id=id))=((L o).find? (fun a=>decide (a.Id=id))).map pR:=by rw [List.find?_map];rfl
 rcases xv220 id (L o) 0 with ⟨h1,h2⟩|⟨k,x,h1,h2,h3⟩
 ·rw [h2]
  simp only [Option.bind_some]
  rw [if_pos (by simp)]
  simp only [getN,hmap,h1,Option.map_none]
  exact ⟨_,rfl,rfl⟩
 ·rw [h3]
  simp only [Option.bind_some,Nat.zero_add]
  rw [if_neg (by simp),xv1,h1]
  simp only [getN,hmap,h2,Option.map_some,Option.bind_some]
  exact ⟨_,rfl,rfl⟩
theorem xv117 (id:UInt8):∀ l:List fn163,runL (fun (_:Unit) (a:fn163)=>if a.Id=id then (Sum.inr (.inl a):Unit ⊕ (fn163 ⊕ Unit)) else .inl ()) (fun _=>.inr ()) () l=match l.find? (fun a=>decide (a.Id=id)) with|some a=>.inl a|none=>.inr ()
 | []=>rfl
 | a::l=>by
  simp only [runL,List.find?_cons]
  by_cases h:a.Id=id
  ·rw [if_pos h,decide_eq_true h]
  ·rw [if_neg h,decide_eq_false h]
   exact xv117 id l
theorem xv41 (w:Option (List fn163)) (id:UInt8) (hl:(L w).length ≤ 100000):fn169 w id=some (getN (L w) id):=by
 simp only [fn169]
 have:=xv19 (L w) (fn169_l0 w id) (fun (_:Unit) i=>i) (fun (_:Unit) (a:fn163)=>if a.Id=id then (Sum.inr (.inl a):Unit ⊕ (fn163 ⊕ Unit)) else .inl ()) (fun _=>.inr ()) (fun i s=>True)
  (fun s i hi hI=>by
   simp only [fn169_l0,fn169_b0]
   rw [if_pos (by simp;omega),xv1,List.getElem?_eq_getElem hi]
   simp only [Option.bind_some]
   by_cases h:(L w)[i].Id=id
   ·rw [if_pos (by simpa using h),if_pos h];rfl
   ·rw [if_neg (by simpa using h),if_neg h,xv3 (by omega)];rfl)
  (fun s i hi s' hI hg=>trivial)
  (fun s hI=>by
   simp only [fn169_l0,fn169_b0]
   rw [if_neg (by simp)])
  () trivial
 rw [this,xv117]
 simp only [Option.bind_some,getN]
 cases (L w).find? (fun a=>decide (a.Id=id))<;>rfl
def ordB (k:Int) (prev:Option fn163) (a:fn163):Bool:=match prev with
 | none=>true
 | some p=>!decide (p.Id > a.Id) && (!decide (p.Id=a.Id) || xv45 a.Id k)
def chk1 (k:Int) (prev:Option fn163) (a:fn163):Bool:=xv36 a.Id a.N a.A a.B && forB a.Id k && ordB k prev a
def chkL (k:Int):Option fn163->List fn163->Bool
 | _,[]=>true
 | p,a::l=>chk1 k p a && chkL k (some a) l
def xv5 (k:Int) (l:List fn163):Bool:=!decide (l.length > 1024) && chkL k none l && (hasId l 21 || !hasId l 22)
def xv80 {α:Type} (l:List α) (i:Nat):Option α:=if i=0 then none else l[i - 1]?
theorem xv217 (k:Int):∀ (l:List fn140) (p:Option fn140),runL (fun (p:Option fn140) (a:fn140)=>if chk1 k (p.map pR) (pR a) then (.inl (some a):Option fn140 ⊕ (fn140 ⊕ Unit)) else .inr (.inl a)) (fun _=>.inr ()) p l=.inr ()∧chkL k (p.map pR) (l.map pR)=true∨(∃ a,runL (fun (p:Option fn140) (a:fn140)=>if chk1 k (p.map pR) (pR a) then (.inl (some a):Option fn140 ⊕ (fn140 ⊕ Unit)) else .inr (.inl a)) (fun _=>.inr ()) p l=.inl a)∧chkL k (p.map pR) (l.map pR)=false
 | [],p=>.inl ⟨rfl,rfl⟩
 | a::l,p=>by
  simp only [runL,List.map_cons,chkL]
  by_cases h:chk1 k (p.map pR) (pR a)=true
  ·rw [if_pos h,h,Bool.true_and]
   exact xv217 k l (some a)
  ·right
   rw [if_neg h]
   refine ⟨⟨a,rfl⟩,?_⟩
   rw [show chk1 k (p.map pR) (pR a)=false by simpa using h,Bool.false_and]
theorem xv171 (k:Int):∀ (l:List fn163) (p:Option fn163),runL (fun (p:Option fn163) (a:fn163)=>if chk1 k p a then (.inl (some a):Option fn163 ⊕ (Unit ⊕ Unit)) else .inr (.inl ())) (fun _=>.inr ()) p l=.inr ()∧chkL k p l=true∨(runL (fun (p:Option fn163) (a:fn163)=>if chk1 k p a then (.inl (some a):Option fn163 ⊕ (Unit ⊕ Unit)) else .inr (.inl ())) (fun _=>.inr ()) p l=.inl ()∧chkL k p l=false)
 | [],p=>.inl ⟨rfl,rfl⟩
 | a::l,p=>by
  simp only [runL,chkL]
  by_cases h:chk1 k p a=true
  ·rw [if_pos h,h,Bool.true_and]
   exact xv171 k l (some a)
  ·right
   rw [if_neg h]
   refine ⟨rfl,?_⟩
   rw [show chk1 k p a=false by simpa using h,Bool.false_and]
theorem xv108 (k:Int) (o:Option (List fn140)) (hl:(L o).length ≤ 100000) (ht:∀ x ∈ L o,x.A.length ≤ 9000∧x.B.length ≤ 9000):fn76 k o=some (xv5 k ((L o).map pR)):=by
 simp only [fn76]
 by_cases hlen:(L o).length > 1024
 ·rw [if_pos (by simp;omega)]
  simp only [xv5,List.length_map]
  rw [decide_eq_true hlen]
  rfl
 ·rw [if_neg (by simp;omega)]
  have:=xv19 (L o) (fn76_l0 k o o ((L o).length:Int)) (fun (_:Option fn140) i=>i) (fun (p:Option fn140) (a:fn140)=>if chk1 k (p.map pR) (pR a) then (.inl (some a):Option fn140 ⊕ (fn140 ⊕ Unit)) else .inr (.inl a)) (fun _=>.inr ()) (fun i s=>s=xv80 (L o) i)
   (fun s i hi hI=>by
    subst hI
    have hx:=ht _ (List.getElem_mem hi)
    simp only [fn76_l0,fn76_b0]
    rw [if_pos (by simp;omega),xv1,List.getElem?_eq_getElem hi]
    simp only [Option.bind_some]
    rw [xv208 _ hx.1 hx.2,xv3 (by omega)]
    simp only [Option.bind_some,xv223]
    by_cases hv:xv36 (L o)[i].Id (L o)[i].N (L o)[i].A (L o)[i].B=true
    ·rw [if_neg (by simp [hv])]
     by_cases hf:forB (L o)[i].Id k=true
     ·rw [if_neg (by simp [hf])]
      have hc:∀ p,chk1 k p (pR (L o)[i])=ordB k p (pR (L o)[i]):=fun p=>by
       simp only [chk1]
       rw [show xv36 (pR (L o)[i]).Id (pR (L o)[i]).N (pR (L o)[i]).A (pR (L o)[i]).B=true from hv,show forB (pR (L o)[i]).Id k=true from hf]
       simp
      rw [hc]
      cases i with
      | zero=>rw [if_pos (by simp)];rfl
      | succ j =>
       have hj:j < (L o).length:=by omega
       rw [if_neg (by simp;omega),show w64 (((j + 1:Nat):Int) - 1)=(j:Int) from by rw [xv0 (by omega) (by omega)];omega,xv1,List.getElem?_eq_getElem hj]
       simp only [Option.bind_some,xv207]
       have ep:(xv80 (L o) (j + 1)).map pR=some (pR (L o)[j]):=by
        simp only [xv80,Nat.add_one_sub_one]
        rw [if_neg (by omega),List.getElem?_eq_getElem hj]
        rfl
       rw [ep]
       have eo:ordB k (some (pR (L o)[j])) (pR (L o)[j + 1])=(!decide ((L o)[j].Id > (L o)[j + 1].Id) && (!decide ((L o)[j].Id=(L o)[j + 1].Id) || xv45 (L o)[j + 1].Id k)):=rfl
       by_cases h1:(L o)[j].Id > (L o)[j + 1].Id
       ·rw [if_pos (by simpa using h1),if_neg (by rw [eo];simp [h1])];rfl
       ·rw [if_neg (by simpa using h1)]
        by_cases h2:(L o)[j].Id=(L o)[j + 1].Id
        ·rw [if_pos (by simpa using h2)]
         by_cases h3:xv45 (L o)[j + 1].Id k=true
         ·rw [if_neg (by simp [h3]),if_pos (by rw [eo];simp [h1,h3])];rfl
         ·rw [if_pos (by simpa using h3),if_neg (by rw [eo];simp [h2,h3])];rfl
        ·rw [if_neg (by simpa using h2),if_pos (by rw [eo];simp [h1,h2])];rfl
     ·rw [if_pos (by simpa using hf),if_neg (by simp only [chk1];intro q;simp only [Bool.and_eq_true] at q;exact hf q.1.2)];rfl
    ·rw [if_pos (by simpa using hv),if_neg (by simp only [chk1];intro q;simp only [Bool.and_eq_true] at q;exact hv q.1.1)];rfl)
   (fun s i hi s' hI hg=>by
    split at hg
    ·simp only [Sum.inl.injEq] at hg
     rw [← hg]
     simp only [xv80,Nat.add_one_sub_one]
     rw [if_neg (by omega),List.getElem?_eq_getElem hi]
    ·cases hg)
   (fun s hI=>by
    simp only [fn76_l0,fn76_b0]
    rw [if_neg (by simp)])
   none rfl
  rw [this]
  have hd:decide (((L o).map pR).length > 1024)=false:=decide_eq_false (by simpa using hlen)
  obtain ⟨p1,g1,_⟩:=xv109 o 22 hl
  obtain ⟨p2,g2,_⟩:=xv109 o 21 hl
  rcases xv217 k (L o) none with ⟨e1,e2⟩|⟨⟨a,e1⟩,e2⟩
  ·have e2:chkL k none ((L o).map pR)=true:=e2
   rw [e1]
   simp only [Option.bind_some]
   rw [g1]
   simp only [Option.bind_some]
   rw [g2]
   simp only [Option.bind_some,xv52]
   simp only [xv5]
   rw [hd,e2]
   cases hasId ((L o).map pR) 21<;>simp
  ·have e2:chkL k none ((L o).map pR)=false:=e2
   rw [e1]
   simp only [xv5]
   rw [hd,e2]
   rfl
theorem xv114 (k:Int) (o:Option (List fn163)) (hl:(L o).length ≤ 100000) (ht:∀ x ∈ L o,x.A.length ≤ 9000∧x.B.length ≤ 9000):fn127 k o=some (xv5 k (L o)):=by
 simp only [fn127]
 by_cases hlen:(L o).length > 1024
 ·rw [if_pos (by simp;omega)]
  simp only [xv5]
  rw [decide_eq_true hlen]
  rfl
 ·rw [if_neg (by simp;omega)]
  have:=xv19 (L o) (fn127_l0 k o) (fun (_:Option fn163) i=>i) (fun (p:Option fn163) (a:fn163)=>if chk1 k p a then (.inl (some a):Option fn163 ⊕ (Unit ⊕ Unit)) else .inr (.inl ())) (fun _=>.inr ()) (fun i s=>s=xv80 (L o) i)
   (fun s i hi hI=>by
    subst hI
    have hx:=ht _ (List.getElem_mem hi)
    simp only [fn127_l0,fn127_b0]
    rw [if_pos (by simp;omega),xv1,List.getElem?_eq_getElem hi]
    simp only [Option.bind_some]
    rw [xv212 _ hx.1 hx.2,xv3 (by omega)]
    simp only [Option.bind_some,xv118]
    by_cases hv:xv36 (L o)[i].Id (L o)[i].N (L o)[i].A (L o)[i].B=true
    ·rw [if_neg (by simp [hv])]
     by_cases hf:forB (L o)[i].Id k=true
     ·rw [if_neg (by simp [hf])]
      have hc:∀ p,chk1 k p (L o)[i]=ordB k p (L o)[i]:=fun p=>by
       simp only [chk1,hv,hf]
       simp
      rw [hc]
      cases i with
      | zero=>rw [if_neg (by simp)];rfl
      | succ j =>
       have hj:j < (L o).length:=by omega
       rw [if_pos (by simp),show w64 (((j + 1:Nat):Int) - 1)=(j:Int) from by rw [xv0 (by omega) (by omega)];omega,xv1,List.getElem?_eq_getElem hj]
       simp only [Option.bind_some,xv119]
       have ep:xv80 (L o) (j + 1)=some (L o)[j]:=by
        simp only [xv80,Nat.add_one_sub_one]
        rw [if_neg (by omega),List.getElem?_eq_getElem hj]
       rw [ep]
       have eo:ordB k (some (L o)[j]) (L o)[j + 1]=(!decide ((L o)[j].Id > (L o)[j + 1].Id) && (!decide ((L o)[j].Id=(L o)[j + 1].Id) || xv45 (L o)[j + 1].Id k)):=rfl
       by_cases h1:(L o)[j].Id > (L o)[j + 1].Id
       ·rw [if_pos (by simpa using h1),if_neg (by rw [eo];simp [h1])];rfl
       ·rw [if_neg (by simpa using h1)]
        by_cases h2:(L o)[j].Id=(L o)[j + 1].Id
        ·rw [if_pos (by simpa using h2)]
         by_cases h3:xv45 (L o)[j + 1].Id k=true
         ·rw [if_neg (by simp [h3]),if_pos (by rw [eo];simp [h1,h3])];rfl
         ·rw [if_pos (by simpa using h3),if_neg (by rw [eo];simp [h2,h3])];rfl
        ·rw [if_neg (by simpa using h2),if_pos (by rw [eo];simp [h1,h2])];rfl
     ·rw [if_pos (by simpa using hf),if_neg (by simp only [chk1];intro q;simp only [Bool.and_eq_true] at q;exact hf q.1.2)];rfl
    ·rw [if_pos (by simpa using hv),if_neg (by simp only [chk1];intro q;simp only [Bool.and_eq_true] at q;exact hv q.1.1)];rfl)
   (fun s i hi s' hI hg=>by
    split at hg
    ·simp only [Sum.inl.injEq] at hg
     rw [← hg]
     simp only [xv80,Nat.add_one_sub_one]
     rw [if_neg (by omega),List.getElem?_eq_getElem hi]
    ·cases hg)
   (fun s hI=>by
    simp only [fn127_l0,fn127_b0]
    rw [if_neg (by simp)])
   none rfl
  rw [this]
  have hd:decide ((L o).length > 1024)=false:=decide_eq_false hlen
  rcases xv171 k (L o) none with ⟨e1,e2⟩|⟨e1,e2⟩
  ·rw [e1]
   simp only [Option.bind_some]
   rw [xv41 o 22 hl]
   simp only [Option.bind_some]
   rw [xv41 o 21 hl]
   simp only [Option.bind_some,xv52]
   simp only [xv5]
   rw [hd,e2]
   cases hasId (L o) 21<;>simp
  ·rw [e1]
   simp only [xv5]
   rw [hd,e2]
   rfl
end Go.Rv
namespace Go.Rv
def optN (v k:Int) (sh:Bool) (o:UInt8):Bool :=
 !decide ((o &&& (3:UInt8)) > (2:UInt8)) && !decide (o ≥ (48:UInt8)) && (if k=10 then decide (o=0) else if v=4 then decide (o ≤ (2:UInt8)) else (!sh || decide ((o &&& (4:UInt8))=0)))
def optR (v k:Int) (sh:Bool) (o:UInt8):Bool :=
 !decide ((o % (4:UInt8))=(3:UInt8)) && !(decide (k=10) && !decide (o=0)) && !(decide (v=4) && decide (o > (2:UInt8))) && !decide (o ≥ (48:UInt8)) && !(sh && decide (((o / (4:UInt8)) % (2:UInt8))=(1:UInt8)))
theorem xv338:∀ sh o,optN 4 8 sh o=optR 4 8 sh o:=by
 intro sh
 cases sh<;>exact all8 (by decide +kernel)
theorem xv339:∀ sh o,optN 5 8 sh o=optR 5 8 sh o:=by
 intro sh
 cases sh<;>exact all8 (by decide +kernel)
theorem xv307:∀ sh o,optN 4 10 sh o=optR 4 10 sh o:=by
 intro sh
 cases sh<;>exact all8 (by decide +kernel)
theorem xv308:∀ sh o,optN 5 10 sh o=optR 5 10 sh o:=by
 intro sh
 cases sh<;>exact all8 (by decide +kernel)
theorem xv340 (v k:Int) (hv:v=4∨v=5) (hk:k=8∨k=10) (sh:Bool) (o:UInt8):optN v k sh o=optR v k sh o:=by
 rcases hv with rfl|rfl<;>rcases hk with rfl|rfl
 ·exact xv338 sh o
 ·exact xv307 sh o
 ·exact xv339 sh o
 ·exact xv308 sh o
def wantN (v k:Int) (f:fn112):Bool:=xv12 f.Text && optN v k (xv23 f.Text).2.2 f.Opt
theorem xv329 (v k:Int) (f:fn59) (hl:f.Text.length ≤ 9000):fn16 f v k=some (wantN v k (fR f)):=by
 simp only [fn16,xv188 _ hl,xv85 _ hl,Option.bind_some,fn16_c0,fn16_c1]
 have e:wantN v k (fR f)=(xv12 f.Text && optN v k (xv23 f.Text).2.2 f.Opt):=rfl
 rw [e]
 simp only [optN]
 cases hf:xv12 f.Text with
 | false=>simp
 | true =>
  by_cases h3:(f.Opt &&& (3:UInt8)) > (2:UInt8)
  ·simp [h3]
  ·by_cases h48:f.Opt ≥ (48:UInt8)
   ·simp [h3,h48]
   ·by_cases hk:k=10
    ·simp [h3,h48,hk]
    ·by_cases hv:v=4
     ·simp [h3,h48,hk,hv]
     ·cases hs:(xv23 f.Text).2.2<;>simp [h3,h48,hk,hv]
theorem xv247 {α:Type} (want:α->Bool) (v:Int) (p:fn60):∀ (l:List α) (s:Nat),
 (l.all want=true∧runL (fun (s:Nat) (a:α)=>if want a then .inl (s + 1) else (.inr (.inl ((s:Int),v,p)):Nat ⊕ ((Int × Int × fn60) ⊕ (Int × fn60)))) (fun _=>.inr (v,p)) s l=.inr (v,p)) ∨
 (l.all want=false∧∃ k:Nat,runL (fun (s:Nat) (a:α)=>if want a then .inl (s + 1) else (.inr (.inl ((s:Int),v,p)):Nat ⊕ ((Int × Int × fn60) ⊕ (Int × fn60)))) (fun _=>.inr (v,p)) s l=.inl ((k:Int),v,p))
 | [],s=>.inl ⟨rfl,rfl⟩
 | a::l,s=>by
  by_cases h:want a=true
  ·have e:(a::l).all want=l.all want:=by rw [List.all_cons,h,Bool.true_and]
   rw [e]
   simp only [runL]
   rw [if_pos h]
   exact xv247 want v p l (s + 1)
  ·right
   refine ⟨by rw [List.all_cons,show want a=false by simpa using h,Bool.false_and],s,?_⟩
   simp only [runL]
   rw [if_neg h]
theorem cf_eq (o:Option (List fn59)) (v:Int) (p:fn60) (hl:(L o).length ≤ 100000) (ht:∀ f ∈ L o,f.Text.length ≤ 9000) :
 fn0 o v p=some (!((L o).map fR).all (wantN v p.Kind),v,p):=by
 simp only [fn0,fn1]
 have hall:((L o).map fR).all (wantN v p.Kind)=(L o).all (fun f=>wantN v p.Kind (fR f)):=by rw [List.all_map];rfl
 have:=xv19 (L o) (fn1_l0 o ((L o).length:Int)) (fun (_:Nat) i=>(i,v,p)) (fun (s:Nat) (a:fn59)=>if wantN v p.Kind (fR a) then .inl (s + 1) else (.inr (.inl ((s:Int),v,p)):Nat ⊕ ((Int × Int × fn60) ⊕ (Int × fn60)))) (fun _=>.inr (v,p)) (fun i s=>s=i)
  (fun s i hi hI=>by
   subst hI
   simp only [fn1_l0,fn1_b0,fn25]
   rw [if_pos (by simp;omega),xv1,List.getElem?_eq_getElem hi]
   simp only [Option.bind_some]
   rw [xv329 v _ _ (ht _ (List.getElem_mem hi))]
   simp only [Option.bind_some]
   rw [xv3 (by omega)]
   by_cases h:wantN v p.Kind (fR (L o)[s])=true
   ·have e:wantN v p.Kind (fR ⟨(L o)[s].Text,(L o)[s].Opt⟩)=true:=h
    rw [if_neg (by simp [e]),if_pos h];rfl
   ·have e:wantN v p.Kind (fR ⟨(L o)[s].Text,(L o)[s].Opt⟩)=false:=by simpa using h
    rw [if_pos (by simp [e]),if_neg h];rfl)
  (fun s i hi s' hI hg=>by
   subst hI
   split at hg
   ·simpa using hg.symm
   ·cases hg)
  (fun s hI=>by
   simp only [fn1_l0,fn1_b0]
   rw [if_neg (by simp)]) 0 rfl
 rw [this,hall]
 rcases xv247 (fun f=>wantN v p.Kind (fR f)) v p (L o) 0 with ⟨e1,e2⟩|⟨e1,k,e2⟩
 ·rw [e1,e2];rfl
 ·rw [e1,e2]
  simp only [Option.bind_some]
  rw [decide_eq_true (show (k:Int) ≥ 0 by omega)]
  rfl
theorem cc_eq (o:Option (List UInt8)) (v:Int) (p:fn60) (hl:(L o).length ≤ 100000) :
 fn5 o v p=some (!(L o).all (knB v p.Kind),v,p):=by
 simp only [fn5,fn8]
 have:=xv19 (L o) (fn8_l0 o ((L o).length:Int)) (fun (_:Nat) i=>(i,v,p)) (fun (s:Nat) (a:UInt8)=>if knB v p.Kind a then .inl (s + 1) else (.inr (.inl ((s:Int),v,p)):Nat ⊕ ((Int × Int × fn60) ⊕ (Int × fn60)))) (fun _=>.inr (v,p)) (fun i s=>s=i)
  (fun s i hi hI=>by
   subst hI
   simp only [fn8_l0,fn8_b0,fn39]
   rw [if_pos (by simp;omega),xv1,List.getElem?_eq_getElem hi]
   simp only [Option.bind_some]
   rw [xv158]
   simp only [Option.bind_some]
   rw [xv3 (by omega)]
   by_cases h:knB v p.Kind (L o)[s]=true
   ·rw [if_neg (by simp [h]),if_pos h];rfl
   ·rw [if_pos (by simpa using h),if_neg h];rfl)
  (fun s i hi s' hI hg=>by
   subst hI
   split at hg
   ·simpa using hg.symm
   ·cases hg)
  (fun s hI=>by
   simp only [fn8_l0,fn8_b0]
   rw [if_neg (by simp)]) 0 rfl
 rw [this]
 rcases xv247 (knB v p.Kind) v p (L o) 0 with ⟨e1,e2⟩|⟨e1,k,e2⟩
 ·rw [e1,e2];rfl
 ·rw [e1,e2]
  simp only [Option.bind_some]
  rw [decide_eq_true (show (k:Int) ≥ 0 by omega)]
  rfl
def xv6 (n:Nat):Bool:=decide (1 ≤ n) && decide (n ≤ 1024)
theorem xv130 (n:Nat):fn51 (n:Int)=some (xv6 n):=by
 simp only [fn51,xv6]
 by_cases h:1 ≤ n
 ·rw [if_pos (by simp;omega),decide_eq_true h,Bool.true_and]
  congr 1
  exact decide_eq_decide.2 (by omega)
 ·rw [if_neg (by simp;omega),decide_eq_false h,Bool.false_and]
def xv15 (v:Int) (p:fn113):Bool:=xv6 (L p.Filters).length && (L p.Filters).all (wantN v p.Kind)
def xv51 (v:Int) (p:fn113):Bool:=if v=4∧p.Kind=11 then decide ((L p.Codes).length=0) else xv6 (L p.Codes).length && (L p.Codes).all (knB v p.Kind)
structure MidP (q:fn60):Prop extends FewP q where
 ft:∀ f ∈ L q.Filters,f.Text.length ≤ 9000
 pt:∀ x ∈ L q.Props,x.A.length ≤ 9000∧x.B.length ≤ 9000
 wt:∀ x ∈ L q.WillProps,x.A.length ≤ 9000∧x.B.length ≤ 9000
 cl:q.Client.length ≤ 9000
 tp:q.Topic.length ≤ 9000
 wo:q.WillTopic.length ≤ 9000
 us:q.User.length ≤ 9000
theorem xv152 (v:Int) (q:fn60) (h:MidP q):fn38 v q=some (xv15 v (nP q)):=by
 have h3:=h.fl
 simp only [fn38]
 rw [xv130]
 simp only [Option.bind_some]
 have e:xv15 v (nP q)=(xv6 (L q.Filters).length && ((L q.Filters).map fR).all (wantN v q.Kind)):=by
  show (xv6 ((L q.Filters).map fR).length && _)=_
  rw [List.length_map];rfl
 rw [e]
 cases xv6 (L q.Filters).length with
 | false=>rfl
 | true =>
  rw [if_pos rfl,cf_eq _ _ _ (by omega) h.ft]
  simp
theorem xv250 (v:Int) (q:fn60) (h:MidP q):fn67 v q=some (xv51 v (nP q)):=by
 have h4:=h.cd
 have c0:∀ (k:Bool->Int->fn60->Option Bool) (hk:∀ b v p,k b v p=some b),fn67_c0 v q k=some (xv6 (L q.Codes).length && (L q.Codes).all (knB v q.Kind)):=by
  intro k hk
  simp only [fn67_c0]
  rw [xv130]
  simp only [Option.bind_some]
  cases xv6 (L q.Codes).length with
  | false=>rw [if_neg (by simp),hk];rfl
  | true =>
   rw [if_pos rfl,cc_eq _ _ _ h4]
   simp only [Option.bind_some,hk]
   simp
 have e:xv51 v (nP q)=if v=4∧q.Kind=11 then decide ((L q.Codes).length=0) else xv6 (L q.Codes).length && (L q.Codes).all (knB v q.Kind):=rfl
 rw [e]
 simp only [fn67]
 by_cases hv:v=4
 ·rw [if_pos (by simpa using hv)]
  by_cases hk:q.Kind=11
  ·rw [if_pos (by simpa using hk),if_pos ⟨hv,hk⟩]
   congr 1
   exact decide_eq_decide.2 (by omega)
  ·rw [if_neg (by simpa using hk),if_neg (fun h=>hk h.2),c0 _ (fun _ _ _=>rfl)]
 ·rw [if_neg (by simpa using hv),if_neg (fun h=>hv h.1),c0 _ (fun _ _ _=>rfl)]
def pubN (v:Int) (p:fn113):Bool :=
 !decide (p.QoS > 2) && !(p.Dup && decide (p.QoS=0)) && (decide (p.Id=0) == decide (p.QoS=0)) && (nameB p.Topic || (decide (v=5) && decide (p.Topic=[]) && hasId (L p.Props) 35))
theorem xv163 (v:Int) (q:fn60) (h:MidP q):fn37 v q=some (pubN v (nP q)):=by
 have h2:=h.pp
 obtain ⟨p1,g1,_⟩:=xv109 q.Props 35 (by omega)
 have e:pubN v (nP q)=(!decide (q.QoS > 2) && !(q.Dup && decide (q.QoS=0)) && (decide (q.Id=0) == decide (q.QoS=0)) && (nameB q.Topic || (decide (v=5) && decide (q.Topic=[]) && hasId ((L q.Props).map pR) 35))):=rfl
 rw [e]
 simp only [fn37,fn37_c0,g1,xv101 _ h.tp,Option.bind_some,xv52]
 by_cases a1:q.QoS > 2
 ·simp [a1]
 ·cases a2:q.Dup<;>by_cases a3:q.QoS=0<;>by_cases a4:q.Id=0<;>cases a5:nameB q.Topic<;>by_cases a6:v=5<;>by_cases a7:q.Topic=[]<;>simp [a1,a3,a4,a6,a7]
theorem xv140 (v:Int) (p:fn113) (ht:p.Topic.length ≤ 9000) (h2:(L p.Props).length ≤ 1000):fn82 v p=some (pubN v (nR p)):=by
 have e:pubN v (nR p)=(!decide (p.QoS > 2) && !(p.Dup && decide (p.QoS=0)) && (decide (p.Id=0) == decide (p.QoS=0)) && (nameB p.Topic || (decide (v=5) && decide (p.Topic=[]) && hasId (L p.Props) 35))):=rfl
 rw [e]
 simp only [fn82,fn82_c0,xv41 p.Props 35 (by omega),xv96 _ ht,Option.bind_some,xv52]
 by_cases a1:p.QoS > 2
 ·simp [a1]
 ·cases a2:p.Dup<;>by_cases a3:p.QoS=0<;>by_cases a4:p.Id=0<;>cases a5:nameB p.Topic<;>by_cases a6:v=5<;>by_cases a7:p.Topic=[]<;>simp [a1,a3,a4,a6,a7]
def conN (v:Int) (p:fn113):Bool :=
 !(p.HasWill && (decide (p.WillQoS > 2) || !nameB p.WillTopic)) && (decide (v=5) || ((p.HasUser || !p.HasPass) && (p.Clean || !decide (p.Client=[]))))
theorem xv147 (v:Int) (q:fn60) (h:MidP q):fn36 v q=some (conN v (nP q)):=by
 have e:conN v (nP q)=(!(q.HasWill && (decide (q.WillQoS > 2) || !nameB q.WillTopic)) && (decide (v=5) || ((q.HasUser || !q.HasPass) && (q.Clean || !decide (q.Client=[]))))):=rfl
 rw [e]
 simp only [fn36,fn36_c0,xv101 _ h.wo,Option.bind_some]
 cases a1:q.HasWill<;>by_cases a2:q.WillQoS > 2<;>cases a3:nameB q.WillTopic<;>by_cases a4:v=5<;>cases a5:q.HasUser<;>cases a6:q.HasPass<;>cases a7:q.Clean<;>simp [a2,a4]
theorem xv137 (v:Int) (hv:v=4∨v=5) (p:fn113) (h1:p.WillTopic.length ≤ 9000) (h2:p.Client.length ≤ 9000) (h3:p.User.length ≤ 9000) :
 fn81 v p=some (conN v (nR p) && (decide (p.Pass.length ≤ 65535) && decide (p.WillLoad.length ≤ 65535) && good p.Client && good p.User)):=by
 have e:conN v (nR p)=(!(p.HasWill && (decide (p.WillQoS > 2) || !nameB p.WillTopic)) && (decide (v=5) || ((p.HasUser || !p.HasPass) && (p.Clean || !decide (p.Client=[]))))):=rfl
 rw [e]
 have c0:fn81_c0 p (fun x=>some x)=some (decide (p.Pass.length ≤ 65535) && decide (p.WillLoad.length ≤ 65535) && good p.Client && good p.User):=by
  simp only [fn81_c0,xv32 p.Client (by omega),xv32 p.User (by omega),Option.bind_some]
  have d1:decide ((p.Pass.length:Int) ≤ 65535)=decide (p.Pass.length ≤ 65535):=decide_eq_decide.2 (by omega)
  have d2:decide ((p.WillLoad.length:Int) ≤ 65535)=decide (p.WillLoad.length ≤ 65535):=decide_eq_decide.2 (by omega)
  rw [d1,d2]
  cases decide (p.Pass.length ≤ 65535)<;>cases decide (p.WillLoad.length ≤ 65535)<;>cases good p.Client<;>simp
 simp only [fn81,xv96 _ h1,Option.bind_some,c0]
 generalize (decide (p.Pass.length ≤ 65535) && decide (p.WillLoad.length ≤ 65535) && good p.Client && good p.User)=z
 rcases hv with rfl|rfl
 ·cases a1:p.HasWill<;>by_cases a2:p.WillQoS > 2<;>cases a3:nameB p.WillTopic<;>cases a5:p.HasUser<;>cases a6:p.HasPass<;>cases a7:p.Clean<;>by_cases a8:p.Client=[]<;>simp [a2,a8]
 ·cases a1:p.HasWill<;>by_cases a2:p.WillQoS > 2<;>cases a3:nameB p.WillTopic<;>simp [a2]
end Go.Rv
namespace Go.Rv
def vb (n:Nat):List UInt8:=if h:n < 128 then [UInt8.ofNat n] else UInt8.ofNat (n % 128 + 128)::vb (n / 128)
theorem vb_lt {n:Nat} (h:n < 128):vb n=[UInt8.ofNat n]:=by rw [vb,dif_pos h]
theorem vb_ge {n:Nat} (h:¬ n < 128):vb n=UInt8.ofNat (n % 128 + 128)::vb (n / 128):=by rw [vb,dif_neg h]
theorem xv61:∀ (k n:Nat),n < 128 ^ k->(vb n).length ≤ k + 1
 | 0,n,h=>by rw [vb_lt (by omega)];simp
 | k + 1,n,h=>by
  by_cases hn:n < 128
  ·rw [vb_lt hn];simp
  ·rw [vb_ge hn]
   have:=xv61 k (n / 128) (by rw [Nat.pow_succ] at h;exact Nat.div_lt_of_lt_mul (by omega))
   simp;omega
theorem xv126 (x:UInt32):x.toNat < 128 ^ 5:=by
 have:=x.toNat_lt
 have e:(128:Nat) ^ 5=34359738368:=by decide
 omega
theorem xv129:∀ (m:Nat) (x:UInt32) (out:Option (List UInt8)),x.toNat < m->(L out).length + (vb x.toNat).length ≤ 140737488355328 ->
 ((iter fn143_l0 (x,out)).bind fun (x9,x10)=>(appO 1 x10 (some [u8 (x9.toNat:Int)])).bind fun x11=>some x11)=some (some (L out++vb x.toNat))
 | 0,x,out,h,_=>by omega
 | m + 1,x,out,h,hr=>by
  have hx:=x.toNat_lt
  rw [yv700]
  simp only [fn143_l0,fn143_b0]
  by_cases h1:128 ≤ x.toNat
  ·have hge:(x ≥ (128:UInt32)):=by show (128:UInt32) ≤ x;rw [UInt32.le_iff_toNat_le];exact h1
   rw [vb_ge (by omega)] at hr ⊢
   rw [if_pos (by simpa using hge),xv21 (by simp [room] at hr ⊢;omega) (by simp [room] at hr ⊢;omega),Option.bind_some]
   simp only [Option.bind]
   have e7:(((7:UInt64).toNat:Int))=((7:Nat):Int):=rfl
   have hs:(yv472 x ((7:UInt64).toNat:Int)).toNat=x.toNat / 128:=by rw [e7,xv65 (by omega)]
   have ih:=xv129 m (yv472 x ((7:UInt64).toNat:Int)) (some (L out++[u8 (x.toNat:Int) ||| 128])) (by rw [hs];omega) (by rw [hs];simp [L] at hr ⊢;omega)
   simp only [Option.bind] at ih
   rw [ih,hs]
   have e8:(u8 (x.toNat:Int) ||| 128)=UInt8.ofNat (x.toNat % 128 + 128):=by
    rw [eq8,hi7,u8_toNat']
    simp only [UInt8.toNat_ofNat']
    omega
   rw [e8]
   simp [L]
  ·have hge:¬ (x ≥ (128:UInt32)):=by intro hh;have:=UInt32.le_iff_toNat_le.1 hh;exact h1 this
   rw [vb_lt (by omega)] at hr ⊢
   rw [if_neg (by simpa using hge)]
   simp only [Option.bind]
   rw [xv21 (by simp [room] at hr ⊢;omega) (by simp [room] at hr ⊢;omega)]
   have e8:u8 (x.toNat:Int)=UInt8.ofNat x.toNat:=by rw [eq8,u8_toNat'];simp only [UInt8.toNat_ofNat'];omega
   simp [e8]
theorem xv112:∀ (m:Nat) (x:UInt32) (out:Option (List UInt8)),x.toNat < m->(L out).length + (vb x.toNat).length ≤ 140737488355328 ->
 ((iter fn173_l0 (x,out)).bind fun (x9,x10)=>(appO 1 x10 (some [u8 (x9.toNat:Int)])).bind fun x11=>some x11)=some (some (L out++vb x.toNat))
 | 0,x,out,h,_=>by omega
 | m + 1,x,out,h,hr=>by
  have hx:=x.toNat_lt
  have h128:(128:UInt32).toNat=128:=rfl
  rw [yv700]
  simp only [fn173_l0,fn173_b0]
  by_cases h1:128 ≤ x.toNat
  ·have hge:(x ≥ (128:UInt32)):=by show (128:UInt32) ≤ x;rw [UInt32.le_iff_toNat_le];exact h1
   rw [vb_ge (by omega)] at hr ⊢
   rw [if_pos (by simpa using hge),chk_d (p:=(128:UInt32) ≠ 0) (by decide),Option.bind_some,xv21 (by simp [room] at hr ⊢;omega) (by simp [room] at hr ⊢;omega),Option.bind_some,Option.bind_some]
   simp only [Option.bind]
   have hs:(x / (128:UInt32)).toNat=x.toNat / 128:=by rw [UInt32.toNat_div,h128]
   have ih:=xv112 m (x / (128:UInt32)) (some (L out++[u8 (((x % (128:UInt32)) + (128:UInt32)).toNat:Int)])) (by rw [hs];omega) (by rw [hs];simp [L] at hr ⊢;omega)
   simp only [Option.bind] at ih
   rw [ih,hs]
   have e8:u8 (((x % (128:UInt32)) + (128:UInt32)).toNat:Int)=UInt8.ofNat (x.toNat % 128 + 128):=by
    rw [eq8,u8_toNat',UInt32.toNat_add,UInt32.toNat_mod,h128]
    simp only [UInt8.toNat_ofNat']
    omega
   rw [e8]
   simp [L]
  ·have hge:¬ (x ≥ (128:UInt32)):=by intro hh;have:=UInt32.le_iff_toNat_le.1 hh;exact h1 this
   rw [vb_lt (by omega)] at hr ⊢
   rw [if_neg (by simpa using hge)]
   simp only [Option.bind]
   rw [xv21 (by simp [room] at hr ⊢;omega) (by simp [room] at hr ⊢;omega)]
   have e8:u8 (x.toNat:Int)=UInt8.ofNat x.toNat:=by rw [eq8,u8_toNat'];simp only [UInt8.toNat_ofNat'];omega
   simp [e8]
theorem xv204 {n:UInt32}:n > (268435455:UInt32) ↔ 268435455 < n.toNat:=UInt32.lt_iff_toNat_lt
theorem xv89 (b:Option (List UInt8)) (h:(L b).length ≤ 140737488355328):fn14 b=some b:=by
 cases b with
 | none=>rfl
 | some l =>
  simp only [fn14]
  rw [if_neg (by simp),xv14 (by simpa [room,L] using h) (by simpa [room,L] using h)]
  rfl
theorem xv128 (b:Option (List UInt8)) (n:UInt32) (h:(L b).length ≤ 140737488355000):fn143 b n=some (if 268435455 < n.toNat then b else some (L b++vb n.toNat)):=by
 simp only [fn143]
 rw [xv89 b (by omega),Option.bind_some]
 have hl:=xv61 5 n.toNat (xv126 n)
 by_cases hn:268435455 < n.toNat
 ·rw [if_pos (by simpa [xv204] using hn),if_pos hn]
 ·rw [if_neg (by simpa [xv204] using hn),if_neg hn]
  exact xv129 _ n b (Nat.lt_succ_self _) (by omega)
theorem xv168 (b:Option (List UInt8)) (n:UInt32) (h:(L b).length ≤ 140737488355000):fn173 b n=some (some (L b++if 268435455 < n.toNat then [] else vb n.toNat)):=by
 simp only [fn173]
 rw [xv14 (by simp [room];omega) (by simp [room];omega),Option.bind_some]
 have hl:=xv61 5 n.toNat (xv126 n)
 by_cases hn:268435455 < n.toNat
 ·rw [if_pos (by simpa [xv204] using hn),if_pos hn];simp
 ·rw [if_neg (by simpa [xv204] using hn),if_neg hn]
  have:=xv112 _ n (some ([]++L b)) (Nat.lt_succ_self _) (by simp [L] at h ⊢;omega)
  rw [this];simp [L]
def be:Nat->Nat->List UInt8
 | 0,_=>[]
 | k + 1,n=>UInt8.ofNat (n / 256 ^ k % 256)::be k n
theorem xv9:∀ (k n:Nat),(be k n).length=k
 | 0,_=>rfl
 | k + 1,n=>by simp [be,xv9 k n]
theorem be1 (n:Nat):be 1 n=[UInt8.ofNat (n % 256)]:=by simp [be]
theorem be2 (n:Nat):be 2 n=[UInt8.ofNat (n / 256 % 256),UInt8.ofNat (n % 256)]:=by simp [be]
theorem be4 (n:Nat):be 4 n=[UInt8.ofNat (n / 16777216 % 256),UInt8.ofNat (n / 65536 % 256),UInt8.ofNat (n / 256 % 256),UInt8.ofNat (n % 256)]:=by simp [be]
theorem xv283 {n m:Nat} (h:n % 256=m % 256):u8 (n:Int)=UInt8.ofNat m:=by
 rw [eq8,u8_toNat'];simp only [UInt8.toNat_ofNat'];omega
def lim:Nat:=140737488300000
theorem clone_eq' (b:Option (List UInt8)) (h:(L b).length ≤ lim):fn14 b=some b:=xv89 b (by simp only [lim] at h;omega)
theorem xv58 (b:Option (List UInt8)) (a:UInt8) (l:List UInt8) (h:(L b).length + l.length + 1 ≤ lim):appO 1 b (some (a::l))=some (some (L b++a::l)):=by
 simp only [lim] at h
 exact xv21 (by simp [room];omega) (by simp [room];omega)
theorem xv37 (b:Option (List UInt8)) (c:UInt8) (h:(L b).length + 1 ≤ lim):fn117 b c=some (some (L b++be 1 c.toNat)):=by
 simp only [fn117]
 have hc:=c.toNat_lt
 rw [clone_eq' b (by omega),Option.bind_some,xv58 b c [] (by simpa using h),be1,Nat.mod_eq_of_lt (by omega),UInt8.ofNat_toNat];rfl
theorem xv57 (b:Option (List UInt8)) (n:UInt16) (h:(L b).length + 2 ≤ lim):fn142 b n=some (some (L b++be 2 n.toNat)):=by
 simp only [fn142]
 have e8:(((8:UInt64).toNat:Int))=((8:Nat):Int):=rfl
 rw [clone_eq' b (by omega),Option.bind_some,e8,xv58 b _ _ (by simpa using h),be2,xv141 (by omega),xv283 (m:=n.toNat / 256 % 256) (by omega),xv283 (m:=n.toNat % 256) (by omega)];rfl
theorem xv284 (b:Option (List UInt8)) (n:UInt32) (h:(L b).length + 4 ≤ lim):fn118 b n=some (some (L b++be 4 n.toNat)):=by
 simp only [fn118]
 have hn:=n.toNat_lt
 have e16:(((16:UInt64).toNat:Int))=((16:Nat):Int):=rfl
 rw [e16,xv57 b _ (by omega),Option.bind_some,xv57 _ _ (by simp [L,xv9] at h ⊢;omega),be2,be2,be4,u16_toNat',u16_toNat',xv65 (by omega)]
 simp only [Option.bind_some,L,Option.getD_some,List.append_assoc,List.cons_append,List.nil_append]
 congr 3
 have e1:(((n.toNat / 2 ^ 16:Nat):Int) % 65536).toNat=n.toNat / 65536:=by omega
 have e2:((n.toNat:Int) % 65536).toNat=n.toNat % 65536:=by omega
 rw [e1,e2,show n.toNat / 65536 / 256=n.toNat / 16777216 by omega,show n.toNat % 65536 / 256 % 256=n.toNat / 256 % 256 by omega,show n.toNat % 65536 % 256=n.toNat % 256 by omega]
theorem xv148:∀ (k j i:Nat) (v:UInt64),i + k=j->j ≤ 1000->∃ u:UInt64,iter (fn170_l1 (j:Int)) (v,(i:Int))=some u∧u.toNat=v.toNat / 256 ^ k
 | 0,j,i,v,h,hj=>by
  refine ⟨v,?_,by simp⟩
  rw [yv700]
  simp only [fn170_l1,fn170_b1]
  rw [if_neg (by simp;omega)]
 | k + 1,j,i,v,h,hj=>by
  have e1:w64 ((i:Int) + 1)=((i + 1:Nat):Int):=by rw [show ((i:Int) + 1)=((i + 1:Nat):Int) by simp];exact xv328 (by omega)
  obtain ⟨u,h1,h2⟩:=xv148 k j (i + 1) (v / 256) (by omega) hj
  refine ⟨u,?_,?_⟩
  ·rw [yv700]
   simp only [fn170_l1,fn170_b1]
   rw [if_pos (by simp;omega),chk_d (p:=(256:UInt64) ≠ 0) (by decide),Option.bind_some,e1]
   exact h1
  ·have e256:(256:UInt64).toNat=256:=rfl
   rw [h2,UInt64.toNat_div,e256,Nat.div_div_eq_div_mul,Nat.pow_succ,Nat.mul_comm]
theorem xv222:∀ (k:Nat) (v:UInt64) (b:Option (List UInt8)),k ≤ 1000->(L b).length + k ≤ lim->(b.isSome=true∨0 < k)->iter (fn170_l0 v) (b,(k:Int) - 1)=some (some (L b++be k v.toNat))
 | 0,v,b,hk,h,hb=>by
  rw [yv700]
  simp only [fn170_l0,fn170_b0]
  rw [if_neg (by simp)]
  cases b with
  | none=>simp at hb
  | some l=>simp [be,L]
 | k + 1,v,b,hk,h,hb=>by
  rw [yv700]
  simp only [fn170_l0,fn170_b0]
  have e0:(((k + 1:Nat):Int) - 1)=(k:Int):=by omega
  have ew:w64 ((k:Int) - 1)=(k:Int) - 1:=xv0 (by omega) (by omega)
  rw [e0,if_pos (by simp)]
  obtain ⟨u,h1,h2⟩:=xv148 k k 0 v (by omega) (by omega)
  rw [show (((0:Nat):Int))=0 from rfl] at h1
  have e256:(256:UInt64).toNat=256:=rfl
  have eb:u8 ((u % (256:UInt64)).toNat:Int)=UInt8.ofNat (v.toNat / 256 ^ k % 256):=by
   rw [UInt64.toNat_mod,e256,h2];exact xv283 (by omega)
  rw [h1,Option.bind_some,chk_d (p:=(256:UInt64) ≠ 0) (by decide),Option.bind_some,eb,xv58 b _ [] (by simp;omega),Option.bind_some,ew]
  have:=xv222 k v (some (L b++[UInt8.ofNat (v.toNat / 256 ^ k % 256)])) (by omega) (by simp [L] at h ⊢;omega) (Or.inl rfl)
  simp only [this,be]
  simp [L]
theorem xv111 (b:Option (List UInt8)) (v:UInt64) (k:Nat) (hk:k ≤ 1000) (h:(L b).length + k ≤ lim):fn170 b v (k:Int)=some (some (L b++be k v.toNat)):=by
 simp only [fn170]
 have hl:(L b).length ≤ 140737488300000:=by simp only [lim] at h;omega
 rw [xv14 (by simp [room];omega) (by simp [room];omega),Option.bind_some,xv0 (by omega) (by omega)]
 have:=xv222 k v (some ([]++L b)) hk (by simpa [L] using h) (Or.inl rfl)
 rw [this];simp [L]
theorem xv326 {n:Nat} (h:n < 65536):(u16 (n:Int)).toNat=n:=by rw [u16_toNat'];omega
theorem xv127 {n:Nat} (h:n < 18446744073709551616):(u64 (n:Int)).toNat=n:=by rw [u64_toNat'];omega
theorem xv30 (b:Option (List UInt8)) (x:List UInt8) (hx:x.length ≤ 65535) (h:(L b).length + x.length + 2 ≤ lim):fn144 b x=some (some (L b++(be 2 x.length++x))):=by
 simp only [fn144]
 have hl:(L b).length + x.length + 2 ≤ 140737488300000:=h
 rw [if_neg (by simp;omega),xv57 b _ (by omega),Option.bind_some,xv326 (by omega),xv14 (by simp [room,L,xv9] at hl ⊢;omega) (by simp [room,L,xv9] at hl ⊢;omega)]
 simp [L]
theorem xv34 (b:Option (List UInt8)) (x:List UInt8) (hx:x.length ≤ 65535) (h:(L b).length + x.length + 2 ≤ lim):fn171 b x=some (some (L b++(be 2 x.length++x))):=by
 simp only [fn171]
 have hl:(L b).length + x.length + 2 ≤ 140737488300000:=h
 have:=xv111 b (u64 (x.length:Int)) 2 (by omega) (by omega)
 rw [show (((2:Nat):Int))=2 from rfl] at this
 rw [if_neg (by simp;omega),this,Option.bind_some,xv127 (by omega),xv14 (by simp [room,L,xv9] at hl ⊢;omega) (by simp [room,L,xv9] at hl ⊢;omega)]
 simp [L]
end Go.Rv
namespace Go.Rv
def binN (x:List UInt8):List UInt8:=be 2 x.length++x
def oneN (p:fn163):List UInt8:=p.Id::(
 if typeT p.Id=1 then be 1 p.N.toNat else if typeT p.Id=2 then be 2 p.N.toNat else if typeT p.Id=3 then be 4 p.N.toNat
 else if typeT p.Id=4 then (if 268435455 < p.N.toNat then [] else vb p.N.toNat) else if typeT p.Id=7 then binN p.A++binN p.B else binN p.A)
def secN (l:List fn163):List UInt8:=l.flatMap oneN
def okB (p:fn163):Bool:=xv20 p.Id p.N p.A p.B
theorem xv327 (n:UInt32):(vb n.toNat).length ≤ 6:=xv61 5 n.toNat (xv126 n)
theorem xv73 (p:fn163) (ha:p.A.length ≤ 9000) (hb:p.B.length ≤ 9000):(oneN p).length ≤ 18100:=by
 have:=xv327 p.N
 simp only [oneN,binN]
 split
 ·simp [xv9]
 ·split
  ·simp [xv9]
  ·split
   ·simp [xv9]
   ·split
    ·split<;>simp<;>omega
    ·split<;>simp [xv9]<;>omega
theorem xv330 (n:Nat):be 1 (u8 (n:Int)).toNat=be 1 n:=by
 rw [be1,be1,u8_toNat']
 congr 2
 omega
theorem xv286 (n:Nat):be 2 (u16 (n:Int)).toNat=be 2 n:=by
 have h:(u16 (n:Int)).toNat=n % 65536:=by rw [u16_toNat'];omega
 have e1:n % 65536 / 256 % 256=n / 256 % 256:=by omega
 have e2:n % 65536 % 256=n % 256:=by omega
 rw [be2,be2,h,e1,e2]
theorem xv309 (b:Option (List UInt8)) (p:fn140) (ha:p.A.length ≤ 9000) (hb:p.B.length ≤ 9000) (h:(L b).length ≤ 130000000000000) :
 ∃ o,fn119 b p=some o∧L o=L b++oneN (pR p):=by
 have hl:lim=140737488300000:=rfl
 simp only [fn119]
 rw [xv58 b p.Id [] (by rw [hl];simp;omega)]
 simp only [Option.bind_some,xv95]
 have e:oneN (pR p)=p.Id::(
  if typeT p.Id=1 then be 1 p.N.toNat else if typeT p.Id=2 then be 2 p.N.toNat else if typeT p.Id=3 then be 4 p.N.toNat
  else if typeT p.Id=4 then (if 268435455 < p.N.toNat then [] else vb p.N.toNat) else if typeT p.Id=7 then binN p.A++binN p.B else binN p.A):=rfl
 rw [e]
 have hlen:(L (some (L b++[p.Id]))).length=(L b).length + 1:=by simp [L]
 by_cases h1:typeT p.Id=1
 ·rw [if_pos (by simpa using h1),if_pos h1,xv37 _ _ (by rw [hlen,hl];omega),xv330]
  exact ⟨_,rfl,by simp [L]⟩
 ·rw [if_neg (by simpa using h1),if_neg h1]
  by_cases h2:typeT p.Id=2
  ·rw [if_pos (by simpa using h2),if_pos h2,xv57 _ _ (by rw [hlen,hl];omega),xv286]
   exact ⟨_,rfl,by simp [L]⟩
  ·rw [if_neg (by simpa using h2),if_neg h2]
   by_cases h3:typeT p.Id=3
   ·rw [if_pos (by simpa using h3),if_pos h3,xv284 _ _ (by rw [hlen,hl];omega)]
    exact ⟨_,rfl,by simp [L]⟩
   ·rw [if_neg (by simpa using h3),if_neg h3]
    by_cases h4:typeT p.Id=4
    ·rw [if_pos (by simpa using h4),if_pos h4,xv128 _ _ (by rw [hlen];omega)]
     refine ⟨_,rfl,?_⟩
     split<;>simp [L]
    ·rw [if_neg (by simpa using h4),if_neg h4]
     by_cases h7:typeT p.Id=7
     ·rw [if_pos (by simpa using h7),if_pos h7,xv30 _ _ (by omega) (by rw [hlen,hl];omega)]
      simp only [Option.bind_some]
      rw [xv30 _ _ (by omega) (by rw [hl];simp [L,xv9];simp [L] at h;omega)]
      exact ⟨_,rfl,by simp [L,binN]⟩
     ·rw [if_neg (by simpa using h7),if_neg h7,xv30 _ _ (by omega) (by rw [hlen,hl];omega)]
      exact ⟨_,rfl,by simp [L,binN]⟩
theorem xv161 (g:fn140->Option (List UInt8)->Option (List UInt8)) (hg:∀ p s,L (g p s)=L s++oneN (pR p)):∀ (l:List fn140) (s:Option (List UInt8)),
 ((l.map pR).all okB=true∧∃ o,runL (fun (s:Option (List UInt8)) (a:fn140)=>if okB (pR a) then .inl (g a s) else (.inr (.inl a):Option (List UInt8) ⊕ (fn140 ⊕ Option (List UInt8)))) (fun s=>.inr s) s l=.inr o∧L o=L s++secN (l.map pR)) ∨
 ((l.map pR).all okB=false∧∃ a,runL (fun (s:Option (List UInt8)) (a:fn140)=>if okB (pR a) then .inl (g a s) else (.inr (.inl a):Option (List UInt8) ⊕ (fn140 ⊕ Option (List UInt8)))) (fun s=>.inr s) s l=.inl a)
 | [],s=>.inl ⟨rfl,s,rfl,by simp [secN]⟩
 | a::l,s=>by
  by_cases h:okB (pR a)=true
  ·have e:((a::l).map pR).all okB=(l.map pR).all okB:=by rw [List.map_cons,List.all_cons,h,Bool.true_and]
   rw [e]
   simp only [runL]
   rw [if_pos h]
   rcases xv161 g hg l (g a s) with ⟨h1,o,h2,h3⟩|⟨h1,x,h2⟩
   ·exact .inl ⟨h1,o,h2,by rw [h3,hg];simp [secN,List.append_assoc]⟩
   ·exact .inr ⟨h1,x,h2⟩
  ·right
   refine ⟨by rw [List.map_cons,List.all_cons,show okB (pR a)=false by simpa using h,Bool.false_and],a,?_⟩
   simp only [runL]
   rw [if_neg h]
theorem xv122 (l:List fn163) (h:∀ x ∈ l,x.A.length ≤ 9000∧x.B.length ≤ 9000):(secN l).length ≤ 18100 * l.length:=by
 induction l with
 | nil=>simp [secN]
 | cons a l ih =>
  have h1:=xv73 a (h a (by simp)).1 (h a (by simp)).2
  have h2:=ih (fun x hx=>h x (by simp [hx]))
  have e:secN (a::l)=oneN a++secN l:=rfl
  rw [e,List.length_append,List.length_cons]
  omega
theorem xv310 (o:Option (List fn140)) (hl:(L o).length ≤ 1000) (ht:∀ x ∈ L o,x.A.length ≤ 9000∧x.B.length ≤ 9000) :
 (((L o).map pR).all okB=true∧∃ x,fn53 o=some (x,true)∧L x=secN ((L o).map pR))∨(((L o).map pR).all okB=false∧fn53 o=some (none,false)):=by
 simp only [fn53]
 have htm:∀ x ∈ (L o).map pR,x.A.length ≤ 9000∧x.B.length ≤ 9000:=fun x hx=>by
  obtain ⟨y,hy,rfl⟩:=List.mem_map.1 hx
  exact ht y hy
 have g:∀ (p:fn140) (s:Option (List UInt8)),∃ r:Option (List UInt8),L r=L s++oneN (pR p)∧(p.A.length ≤ 9000∧p.B.length ≤ 9000->(L s).length ≤ 130000000000000->fn119 s p=some r):=by
  intro p s
  by_cases hp:(p.A.length ≤ 9000∧p.B.length ≤ 9000)∧(L s).length ≤ 130000000000000
  ·obtain ⟨r,e1,e2⟩:=xv309 s p hp.1.1 hp.1.2 hp.2
   exact ⟨r,e2,fun _ _=>e1⟩
  ·exact ⟨some (L s++oneN (pR p)),rfl,fun h1 h2=>absurd ⟨h1,h2⟩ hp⟩
 have hex:∃ G:fn140->Option (List UInt8)->Option (List UInt8),∀ p s,L (G p s)=L s++oneN (pR p)∧(p.A.length ≤ 9000∧p.B.length ≤ 9000->(L s).length ≤ 130000000000000->fn119 s p=some (G p s)) :=
  ⟨fun p s=>(g p s).choose,fun p s=>(g p s).choose_spec⟩
 obtain ⟨G,hG⟩:=hex
 have:=xv19 (L o) (fn53_l0 o ((L o).length:Int)) (fun (s:Option (List UInt8)) i=>(s,i)) (fun (s:Option (List UInt8)) (a:fn140)=>if okB (pR a) then .inl (G a s) else (.inr (.inl a):Option (List UInt8) ⊕ (fn140 ⊕ Option (List UInt8)))) (fun s=>.inr s) (fun i s=>(L s).length ≤ 18100 * i)
  (fun s i hi hI=>by
   have hx:=ht _ (List.getElem_mem hi)
   simp only [fn53_l0,fn53_b0]
   rw [if_pos (by simp;omega),xv1,List.getElem?_eq_getElem hi]
   simp only [Option.bind_some]
   rw [xv110 _ hx.1 hx.2]
   simp only [Option.bind_some]
   have e:okB (pR (L o)[i])=xv20 (L o)[i].Id (L o)[i].N (L o)[i].A (L o)[i].B:=rfl
   rw [e]
   by_cases h:xv20 (L o)[i].Id (L o)[i].N (L o)[i].A (L o)[i].B=true
   ·rw [if_neg (by simp [h]),if_pos h,show fn119 s (⟨(L o)[i].Id,(L o)[i].N,(L o)[i].A,(L o)[i].B⟩:fn140)=some (G (L o)[i] s) from (hG _ s).2 hx (by omega),xv3 (by omega)]
    rfl
   ·rw [if_pos (by simpa using h),if_neg h];rfl)
  (fun s i hi s' hI hg=>by
   have hx:=ht _ (List.getElem_mem hi)
   split at hg
   ·simp only [Sum.inl.injEq] at hg
    rw [← hg,(hG _ _).1,List.length_append]
    have:=xv73 (pR (L o)[i]) hx.1 hx.2
    omega
   ·cases hg)
  (fun s hI=>by
   simp only [fn53_l0,fn53_b0]
   rw [if_neg (by simp)]) none (by simp [L])
 rw [this]
 rcases xv161 G (fun p s=>(hG p s).1) (L o) none with ⟨h1,x,h2,h3⟩|⟨h1,x,h2⟩
 ·left
  have h3:L x=secN ((L o).map pR):=by rw [h3];simp [L]
  refine ⟨h1,x,?_,h3⟩
  rw [h2]
  simp only [Option.bind_some]
  have:=xv122 _ htm
  rw [List.length_map] at this
  rw [decide_eq_true]
  rw [h3];omega
 ·right
  exact ⟨h1,by rw [h2];rfl⟩
def putN (l:List fn163):List UInt8:=vb (secN l).length++secN l
theorem xv165 (l:List fn163) (hl:l.length ≤ 1000) (h:∀ x ∈ l,x.A.length ≤ 9000∧x.B.length ≤ 9000):(putN l).length ≤ 18100 * l.length + 6:=by
 have h1:=xv122 l h
 have h2:=xv61 4 (secN l).length (by have:(128:Nat) ^ 4=268435456:=(by decide);omega)
 simp only [putN,List.length_append]
 omega
theorem xv160 (b:Option (List UInt8)) (o:Option (List fn140)) (hb:(L b).length ≤ 130000000000000) (hl:(L o).length ≤ 1000) (ht:∀ x ∈ L o,x.A.length ≤ 9000∧x.B.length ≤ 9000) :
 fn120 b o=if ((L o).map pR).all okB then some (some (L b++putN ((L o).map pR))) else some b:=by
 have hl2:lim=140737488300000:=rfl
 have htm:∀ x ∈ (L o).map pR,x.A.length ≤ 9000∧x.B.length ≤ 9000:=fun x hx=>by
  obtain ⟨y,hy,rfl⟩:=List.mem_map.1 hx
  exact ht y hy
 have hs:=xv122 _ htm
 rw [List.length_map] at hs
 simp only [fn120]
 rcases xv310 o hl ht with ⟨h1,x,h2,h3⟩|⟨h1,h2⟩
 ·rw [h1,h2,if_pos rfl]
  simp only [Option.bind_some]
  have hu:(u32 ((L x).length:Int)).toNat=(secN ((L o).map pR)).length:=by rw [h3,u32_toNat'];omega
  rw [if_neg (by simp),xv128 _ _ (by omega),hu,if_neg (by omega)]
  simp only [Option.bind_some]
  have h4:=xv61 4 (secN ((L o).map pR)).length (by have:(128:Nat) ^ 4=268435456:=(by decide);omega)
  rw [xv14 (y:=x) (by rw [h3];simp [room];omega) (by rw [h3];simp [room];omega),h3]
  simp [putN]
 ·rw [h1,h2]
  simp only [Option.bind_some]
  rw [xv89 b (by omega)]
  rfl
theorem xv162 (o:Option (List fn140)) (hl:(L o).length ≤ 1000) (ht:∀ x ∈ L o,x.A.length ≤ 9000∧x.B.length ≤ 9000) :
 fn100 o=some (if ((L o).map pR).all okB then ((putN ((L o).map pR)).length:Int) else 0):=by
 simp only [fn100]
 rw [xv160 none o (by simp [L]) hl ht]
 cases ((L o).map pR).all okB<;>rfl
end Go.Rv
namespace Go.Rv
def ownN (v:Int) (p:fn113):Bool :=
 if p.Kind=1 then conN v p
 else if p.Kind=2 then knB v p.Kind p.Code && (!p.Present || decide (p.Code=0))
 else if p.Kind=3 then pubN v p
 else if p.Kind=8∨p.Kind=10 then !decide (p.Id=0) && xv15 v p
 else if p.Kind=9∨p.Kind=11 then !decide (p.Id=0) && xv51 v p
 else if p.Kind=12∨p.Kind=13 then true
 else if p.Kind=14 then knB v p.Kind p.Code
 else if p.Kind=15 then knB v p.Kind p.Code && hasId (L p.Props) 21
 else !decide (p.Id=0) && knB v p.Kind p.Code
theorem xv341 (v:Int) (q:fn60) (h:MidP q):fn99 v q=some (ownN v (nP q)):=by
 have h2:=h.pp
 obtain ⟨p1,g1,_⟩:=xv109 q.Props 21 (by omega)
 have hf:=xv152 v q h
 have hc:=xv250 v q h
 have e:ownN v (nP q)=if q.Kind=1 then conN v (nP q)
  else if q.Kind=2 then knB v q.Kind q.Code && (!q.Present || decide (q.Code=0))
  else if q.Kind=3 then pubN v (nP q)
  else if q.Kind=8∨q.Kind=10 then !decide (q.Id=0) && xv15 v (nP q)
  else if q.Kind=9∨q.Kind=11 then !decide (q.Id=0) && xv51 v (nP q)
  else if q.Kind=12∨q.Kind=13 then true
  else if q.Kind=14 then knB v q.Kind q.Code
  else if q.Kind=15 then knB v q.Kind q.Code && hasId ((L q.Props).map pR) 21
  else !decide (q.Id=0) && knB v q.Kind q.Code:=rfl
 rw [e]
 simp only [fn99,fn99_c0,fn99_c1,fn99_c2,fn99_c3,xv158,xv147 v q h,xv163 v q h,hc,g1,Option.bind_some,xv52]
 rw [show fn38 v (⟨q.Kind,q.Dup,q.Retain,q.QoS,q.Id,q.Clean,q.Keep,q.Client,q.HasWill,q.HasUser,q.HasPass,q.WillQoS,q.WillRetain,q.WillProps,q.WillTopic,q.WillLoad,q.User,q.Pass,q.Present,q.Code,q.Topic,q.Load,q.Filters,q.Codes,q.Props⟩:fn60)=some (xv15 v (nP q)) from hf]
 simp only [Option.bind_some]
 by_cases k1:q.Kind=1
 ·simp [k1]
 ·by_cases k2:q.Kind=2
  ·cases a1:knB v 2 q.Code<;>cases a2:q.Present<;>simp [k2,a1]
  ·by_cases k3:q.Kind=3
   ·simp [k3]
   ·by_cases k8:q.Kind=8
    ·by_cases i0:q.Id=0<;>simp [k8,i0]
    ·by_cases k10:q.Kind=10
     ·by_cases i0:q.Id=0<;>simp [k10,i0]
     ·by_cases k9:q.Kind=9
      ·by_cases i0:q.Id=0<;>simp [k9,i0]
      ·by_cases k11:q.Kind=11
       ·by_cases i0:q.Id=0<;>simp [k11,i0]
       ·by_cases k12:q.Kind=12
        ·simp [k12]
        ·by_cases k13:q.Kind=13
         ·simp [k13]
         ·by_cases k14:q.Kind=14
          ·simp [k14]
          ·by_cases k15:q.Kind=15
           ·cases a1:knB v 15 q.Code<;>simp [k15,a1]
           ·by_cases i0:q.Id=0<;>simp [k1,k2,k3,k8,k10,k9,k11,k12,k13,k14,k15,i0]
def textB (s:List UInt8):Bool:=decide (s.length ≤ 65535) && good s
def xv11 (p:fn113):Bool:=textB p.Client && textB p.WillTopic && textB p.User && textB p.Topic && decide (p.WillLoad.length ≤ 65535) && decide (p.Pass.length ≤ 65535)
theorem xv281 (q:fn60):fn62 q=some (xv11 (nP q)):=by
 have e:xv11 (nP q)=(textB q.Client && textB q.WillTopic && textB q.User && textB q.Topic && decide (q.WillLoad.length ≤ 65535) && decide (q.Pass.length ≤ 65535)):=rfl
 rw [e]
 simp only [fn62]
 have:=xv86 [q.Client,q.WillTopic,q.User,q.Topic] (fn62_l0 (some [q.Client,q.WillTopic,q.User,q.Topic]) ((L (some [q.Client,q.WillTopic,q.User,q.Topic])).length:Int)) textB
  (fun i hi=>by
   have hi4:i < 4:=hi
   simp only [fn62_l0,fn62_b0]
   rw [if_pos (by simp [L];omega),xv1,show (L (some [q.Client,q.WillTopic,q.User,q.Topic]))[i]?=some ([q.Client,q.WillTopic,q.User,q.Topic][i]) from List.getElem?_eq_getElem hi]
   simp only [Option.bind_some]
   rw [xv124,xv3 (by omega)]
   simp only [Option.bind_some]
   exact nif _ _ _)
  (by simp only [fn62_l0,fn62_b0];rw [if_neg (by simp [L])])
 rw [this]
 have e4:[q.Client,q.WillTopic,q.User,q.Topic].all textB=(textB q.Client && textB q.WillTopic && textB q.User && textB q.Topic):=by simp [Bool.and_assoc]
 rw [e4]
 have d1:decide ((q.WillLoad.length:Int) ≤ 65535)=decide (q.WillLoad.length ≤ 65535):=decide_eq_decide.2 (by omega)
 have d2:decide ((q.Pass.length:Int) ≤ 65535)=decide (q.Pass.length ≤ 65535):=decide_eq_decide.2 (by omega)
 rw [d1,d2]
 cases (textB q.Client && textB q.WillTopic && textB q.User && textB q.Topic) with
 | false=>rfl
 | true =>
  simp only [Option.bind_some,if_true]
  cases decide (q.WillLoad.length ≤ 65535)<;>rfl
def sizeI (l:List fn163):Int:=if l.all okB then ((putN l).length:Int) else 0
def sectI (v:Int) (l:List fn163):Int:=if v=4 then 0 else sizeI l
theorem xv100 (l:List fn163) (hl:l.length ≤ 1000) (h:∀ x ∈ l,x.A.length ≤ 9000∧x.B.length ≤ 9000):0 ≤ sizeI l∧sizeI l ≤ 18200000:=by
 have:=xv165 l hl h
 simp only [sizeI]
 split<;>omega
theorem xv84 (v:Int) (o:Option (List fn140)) (hl:(L o).length ≤ 1000) (ht:∀ x ∈ L o,x.A.length ≤ 9000∧x.B.length ≤ 9000):fn40 v o=some (sectI v ((L o).map pR)):=by
 simp only [fn40,xv162 o hl ht,Option.bind_some,sectI,sizeI]
 by_cases hv:v=4<;>simp [hv]
def binI (s:List UInt8):Int:=2 + (s.length:Int)
theorem xv17 (s:List UInt8) (h:s.length ≤ 4000000000):fn41 s=some (binI s):=by
 simp only [fn41,binI]
 rw [xv0 (by omega) (by omega)]
def xv26 (k:Int) (l:List fn112):Int:=(l.map (fun f=>binI f.Text + if k=8 then 1 else 0)).sum
theorem xv115 (k:Int):∀ (l:List fn59) (n:Int),runL (fun (n:Int) (f:fn59)=>(.inl (n + (binI f.Text + if k=8 then 1 else 0)):Int ⊕ Int)) (fun n=>n) n l=n + xv26 k (l.map fR)
 | [],n=>by simp [runL,xv26]
 | a::l,n=>by
  simp only [runL]
  rw [xv115 k l]
  have e:xv26 k ((a::l).map fR)=(binI a.Text + if k=8 then 1 else 0) + xv26 k (l.map fR):=rfl
  rw [e];omega
theorem xv271 (k:Int) (l:List fn112) (h:∀ f ∈ l,f.Text.length ≤ 9000):0 ≤ xv26 k l∧xv26 k l ≤ 9100 * (l.length:Int):=by
 induction l with
 | nil=>simp [xv26]
 | cons a l ih =>
  have h1:=h a (by simp)
  have h2:=ih (fun f hf=>h f (by simp [hf]))
  have e:xv26 k (a::l)=(binI a.Text + if k=8 then 1 else 0) + xv26 k l:=rfl
  rw [e,List.length_cons]
  simp only [binI]
  split<;>omega
theorem xv75 (q:fn60) (h:MidP q):fn20 q=some (xv26 q.Kind ((L q.Filters).map fR)):=by
 have h3:=h.fl
 simp only [fn20]
 have:=xv19 (L q.Filters) (fn20_l0 q.Filters ((L q.Filters).length:Int) q) (fun (n:Int) i=>(n,i)) (fun (n:Int) (f:fn59)=>(.inl (n + (binI f.Text + if q.Kind=8 then 1 else 0)):Int ⊕ Int)) (fun n=>n) (fun i s=>0 ≤ s∧s ≤ 9100 * (i:Int))
  (fun s i hi hI=>by
   have hx:=h.ft _ (List.getElem_mem hi)
   simp only [fn20_l0,fn20_b0]
   rw [if_pos (by simp;omega),xv1,List.getElem?_eq_getElem hi,xv3 (by omega)]
   simp only [Option.bind_some]
   rw [xv17 _ (by omega)]
   simp only [Option.bind_some]
   have hb:binI (L q.Filters)[i].Text=2 + ((L q.Filters)[i].Text.length:Int):=rfl
   by_cases hk:q.Kind=8
   ·rw [if_pos (by simpa using hk),xv0 (x:=s + binI (L q.Filters)[i].Text) (by omega) (by omega),xv0 (by omega) (by omega),if_pos hk]
    simp only [stepL]
    rw [Int.add_assoc]
   ·rw [if_neg (by simpa using hk),xv0 (x:=s + binI (L q.Filters)[i].Text) (by omega) (by omega),if_neg hk,Int.add_zero]
    rfl)
  (fun s i hi s' hI hg=>by
   have hx:=h.ft _ (List.getElem_mem hi)
   simp only [Sum.inl.injEq] at hg
   subst hg
   have hb:binI (L q.Filters)[i].Text=2 + ((L q.Filters)[i].Text.length:Int):=rfl
   split<;>omega)
  (fun s hI=>by
   simp only [fn20_l0,fn20_b0]
   rw [if_neg (by simp)]) 0 (by omega)
 rw [this,xv115]
 simp
def codeI (v:Int) (p:fn113):Int:=if v=4∨(p.Code=0∧(L p.Props).length=0) then 0 else if (L p.Props).length=0 then 1 else 1 + sizeI (L p.Props)
theorem xv138 (v:Int) (q:fn60) (h:MidP q):fn29 v q=some (codeI v (nP q)):=by
 have h2:=h.pp
 have hpt:∀ x ∈ (L q.Props).map pR,x.A.length ≤ 9000∧x.B.length ≤ 9000:=fun x hx=>by
  obtain ⟨y,hy,rfl⟩:=List.mem_map.1 hx
  exact h.pt y hy
 have hs:=xv100 ((L q.Props).map pR) (by simpa using h2) hpt
 have e:codeI v (nP q)=if v=4∨(q.Code=0∧((L q.Props).map pR).length=0) then 0 else if ((L q.Props).map pR).length=0 then 1 else 1 + sizeI ((L q.Props).map pR):=rfl
 rw [e,List.length_map]
 have hsz:fn100 q.Props=some (sizeI ((L q.Props).map pR)):=by rw [xv162 q.Props h2 h.pt];rfl
 simp only [fn29,fn29_c0,fn29_c1,hsz,Option.bind_some]
 rw [xv0 (x:=1 + sizeI ((L q.Props).map pR)) (by omega) (by omega)]
 have hz:(((L q.Props).length:Int)=0) ↔ (L q.Props).length=0:=by omega
 by_cases hv:v=4
 ·simp [hv]
 ·by_cases hc:q.Code=0<;>by_cases hp:(L q.Props).length=0<;>simp [hv,hc,hp,hz]
def restI (v:Int) (p:fn113):Int :=
 if p.Kind=1 then 10 + sectI v (L p.Props) + binI p.Client + (if p.HasWill then sectI v (L p.WillProps) + binI p.WillTopic + binI p.WillLoad else 0) + (if p.HasUser then binI p.User else 0) + (if p.HasPass then binI p.Pass else 0)
 else if p.Kind=2 then 2 + sectI v (L p.Props)
 else if p.Kind=3 then binI p.Topic + sectI v (L p.Props) + (p.Load.length:Int) + (if p.QoS > 0 then 2 else 0)
 else if p.Kind=4∨p.Kind=5∨p.Kind=6∨p.Kind=7 then 2 + codeI v p
 else if p.Kind=8∨p.Kind=10 then 2 + sectI v (L p.Props) + xv26 p.Kind (L p.Filters)
 else if p.Kind=9∨p.Kind=11 then 2 + sectI v (L p.Props) + ((L p.Codes).length:Int)
 else if p.Kind=14∨p.Kind=15 then codeI v p
 else 0
end Go.Rv
namespace Go.Rv
structure MidQ (q:fn60):Prop extends MidP q where
 ld:q.Load.length ≤ 1000000
 ps:q.Pass.length ≤ 1000000
 wl:q.WillLoad.length ≤ 1000000
theorem MidP.ptm {q:fn60} (h:MidP q):∀ x ∈ (L q.Props).map pR,x.A.length ≤ 9000∧x.B.length ≤ 9000:=fun x hx=>by
 obtain ⟨y,hy,rfl⟩:=List.mem_map.1 hx
 exact h.pt y hy
theorem MidP.wtm {q:fn60} (h:MidP q):∀ x ∈ (L q.WillProps).map pR,x.A.length ≤ 9000∧x.B.length ≤ 9000:=fun x hx=>by
 obtain ⟨y,hy,rfl⟩:=List.mem_map.1 hx
 exact h.wt y hy
theorem MidP.ftm {q:fn60} (h:MidP q):∀ x ∈ (L q.Filters).map fR,x.Text.length ≤ 9000:=fun x hx=>by
 obtain ⟨y,hy,rfl⟩:=List.mem_map.1 hx
 exact h.ft y hy
theorem xv183 (v:Int) (l:List fn163) (hl:l.length ≤ 1000) (h:∀ x ∈ l,x.A.length ≤ 9000∧x.B.length ≤ 9000):0 ≤ sectI v l∧sectI v l ≤ 18200000:=by
 have:=xv100 l hl h
 simp only [sectI]
 split<;>omega
theorem xv248 (v:Int) (p:fn113) (hl:(L p.Props).length ≤ 1000) (h:∀ x ∈ L p.Props,x.A.length ≤ 9000∧x.B.length ≤ 9000):0 ≤ codeI v p∧codeI v p ≤ 18200001:=by
 have:=xv100 _ hl h
 simp only [codeI]
 split
 ·omega
 ·split<;>omega
theorem xv64 (v:Int) (q:fn60) (h:MidQ q):fn79 v q=some (restI v (nP q))∧restI v (nP q) ≤ 268435455∧0 ≤ restI v (nP q):=by
 have h1:=h.wp;have h2:=h.pp;have h3:=h.fl;have h4:=h.cd
 have m:=h.toMidP
 have l1:=h.cl;have l2:=h.tp;have l3:=h.wo;have l4:=h.us;have l5:=h.ld;have l6:=h.ps;have l7:=h.wl
 have s1:=xv183 v ((L q.Props).map pR) (by simpa using h2) m.ptm
 have s2:=xv183 v ((L q.WillProps).map pR) (by simpa using h1) m.wtm
 have s3:=xv248 v (nP q) (by simpa [nP,L] using h2) m.ptm
 have s4:=xv271 q.Kind ((L q.Filters).map fR) m.ftm
 rw [List.length_map] at s4
 have e:restI v (nP q)=if q.Kind=1 then 10 + sectI v ((L q.Props).map pR) + binI q.Client + (if q.HasWill then sectI v ((L q.WillProps).map pR) + binI q.WillTopic + binI q.WillLoad else 0) + (if q.HasUser then binI q.User else 0) + (if q.HasPass then binI q.Pass else 0)
  else if q.Kind=2 then 2 + sectI v ((L q.Props).map pR)
  else if q.Kind=3 then binI q.Topic + sectI v ((L q.Props).map pR) + (q.Load.length:Int) + (if q.QoS > 0 then 2 else 0)
  else if q.Kind=4∨q.Kind=5∨q.Kind=6∨q.Kind=7 then 2 + codeI v (nP q)
  else if q.Kind=8∨q.Kind=10 then 2 + sectI v ((L q.Props).map pR) + xv26 q.Kind ((L q.Filters).map fR)
  else if q.Kind=9∨q.Kind=11 then 2 + sectI v ((L q.Props).map pR) + ((L q.Codes).length:Int)
  else if q.Kind=14∨q.Kind=15 then codeI v (nP q)
  else 0:=rfl
 have b1:binI q.Client=2 + (q.Client.length:Int):=rfl
 have b2:binI q.WillTopic=2 + (q.WillTopic.length:Int):=rfl
 have b3:binI q.WillLoad=2 + (q.WillLoad.length:Int):=rfl
 have b4:binI q.User=2 + (q.User.length:Int):=rfl
 have b5:binI q.Pass=2 + (q.Pass.length:Int):=rfl
 have b6:binI q.Topic=2 + (q.Topic.length:Int):=rfl
 refine ⟨?_,?_,?_⟩
 ·rw [e]
  simp only [fn79]
  by_cases k1:q.Kind=1
  ·rw [if_pos (by simpa using k1),if_pos k1]
   have rc1:∀ x:Int,0 ≤ x->x ≤ 100000000->fn19_c1 x q (fun y=>some y)=some (x + if q.HasPass=true then binI q.Pass else 0):=by
    intro x x0 x1
    simp only [fn19_c1]
    rw [xv17 q.Pass (by omega)]
    simp only [Option.bind_some]
    split
    ·rw [xv0 (by omega) (by omega)]
    ·rw [Int.add_zero]
   have rc0:∀ x:Int,0 ≤ x->x ≤ 90000000->fn19_c0 x q (fun y=>some y)=some (x + (if q.HasUser=true then binI q.User else 0) + if q.HasPass=true then binI q.Pass else 0):=by
    intro x x0 x1
    simp only [fn19_c0]
    rw [xv17 q.User (by omega)]
    simp only [Option.bind_some]
    split
    ·rw [xv0 (by omega) (by omega),rc1 _ (by omega) (by omega)]
    ·rw [rc1 _ (by omega) (by omega),Int.add_zero]
   simp only [fn19]
   rw [xv84 v q.Props h2 h.pt]
   simp only [Option.bind_some]
   rw [xv17 q.Client (by omega)]
   simp only [Option.bind_some]
   rw [xv84 v q.WillProps h1 h.wt]
   simp only [Option.bind_some]
   rw [xv17 q.WillTopic (by omega),xv17 q.WillLoad (by omega)]
   simp only [Option.bind_some]
   rw [xv0 (x:=10 + sectI v ((L q.Props).map pR)) (by omega) (by omega),xv0 (x:=10 + sectI v ((L q.Props).map pR) + binI q.Client) (by omega) (by omega)]
   by_cases hw:q.HasWill=true
   ·rw [if_pos hw,if_pos hw,xv0 (x:=sectI v ((L q.WillProps).map pR) + binI q.WillTopic) (by omega) (by omega),xv0 (x:=sectI v ((L q.WillProps).map pR) + binI q.WillTopic + binI q.WillLoad) (by omega) (by omega),xv0 (by omega) (by omega),rc0 _ (by omega) (by omega)];rfl
   ·rw [if_neg hw,if_neg hw,rc0 _ (by omega) (by omega),Int.add_zero];rfl
  ·rw [if_neg (by simpa using k1),if_neg k1]
   by_cases k2:q.Kind=2
   ·rw [if_pos (by simpa using k2),if_pos k2,xv84 v q.Props h2 h.pt]
    simp only [Option.bind_some]
    rw [xv0 (by omega) (by omega)]
   ·rw [if_neg (by simpa using k2),if_neg k2]
    by_cases k3:q.Kind=3
    ·rw [if_pos (by simpa using k3),if_pos k3,xv17 q.Topic (by omega)]
     simp only [Option.bind_some]
     rw [xv84 v q.Props h2 h.pt]
     simp only [Option.bind_some]
     rw [xv0 (x:=binI q.Topic + sectI v ((L q.Props).map pR)) (by omega) (by omega),xv0 (x:=binI q.Topic + sectI v ((L q.Props).map pR) + (q.Load.length:Int)) (by omega) (by omega),xv0 (x:=binI q.Topic + sectI v ((L q.Props).map pR) + (q.Load.length:Int) + 2) (by omega) (by omega)]
     by_cases hq:q.QoS > 0
     ·rw [if_pos (by simpa using hq),if_pos hq]
     ·rw [if_neg (by simpa using hq),if_neg hq,Int.add_zero]
    ·rw [if_neg (by simpa using k3),if_neg k3]
     simp only [fn79_c0,fn79_c1,fn79_c2,fn79_c3]
     rw [show fn29 v (⟨q.Kind,q.Dup,q.Retain,q.QoS,q.Id,q.Clean,q.Keep,q.Client,q.HasWill,q.HasUser,q.HasPass,q.WillQoS,q.WillRetain,q.WillProps,q.WillTopic,q.WillLoad,q.User,q.Pass,q.Present,q.Code,q.Topic,q.Load,q.Filters,q.Codes,q.Props⟩:fn60)=some (codeI v (nP q)) from xv138 v q m,
      show fn20 (⟨q.Kind,q.Dup,q.Retain,q.QoS,q.Id,q.Clean,q.Keep,q.Client,q.HasWill,q.HasUser,q.HasPass,q.WillQoS,q.WillRetain,q.WillProps,q.WillTopic,q.WillLoad,q.User,q.Pass,q.Present,q.Code,q.Topic,q.Load,q.Filters,q.Codes,q.Props⟩:fn60)=some (xv26 q.Kind ((L q.Filters).map fR)) from xv75 q m,
      xv84 v q.Props h2 h.pt]
     simp only [Option.bind_some]
     rw [xv0 (x:=2 + codeI v (nP q)) (by omega) (by omega),xv0 (x:=2 + sectI v ((L q.Props).map pR)) (by omega) (by omega),xv0 (x:=2 + sectI v ((L q.Props).map pR) + xv26 q.Kind ((L q.Filters).map fR)) (by omega) (by omega),xv0 (x:=2 + sectI v ((L q.Props).map pR) + ((L q.Codes).length:Int)) (by omega) (by omega)]
     by_cases k4:q.Kind=4
     ·simp [k4]
     ·by_cases k5:q.Kind=5
      ·simp [k5]
      ·by_cases k6:q.Kind=6
       ·simp [k6]
       ·by_cases k7:q.Kind=7
        ·simp [k7]
        ·by_cases k8:q.Kind=8
         ·simp [k8]
         ·by_cases k10:q.Kind=10
          ·simp [k10]
          ·by_cases k9:q.Kind=9
           ·simp [k9]
           ·by_cases k11:q.Kind=11
            ·simp [k11]
            ·by_cases k14:q.Kind=14
             ·simp [k14]
             ·by_cases k15:q.Kind=15
              ·simp [k15]
              ·simp [k4,k5,k6,k7,k8,k9,k10,k11,k14,k15]
 ·rw [e]
  repeat (split;(try (split<;>split<;>split))<;>(try split)<;>omega)
  omega
 ·rw [e]
  repeat (split;(try (split<;>split<;>split))<;>(try split)<;>omega)
  omega
def verB (v k:Int):Bool:=(decide (v=4) || decide (v=5)) && decide (1 ≤ k) && decide (k ≤ 15) && !(decide (v=4) && decide (k=15))
def xv8 (v:Int) (p:fn113):Bool :=
 verB v p.Kind && decide (p=bareN p) && xv11 p && !(decide (v=4) && decide ((L p.Props).length + (L p.WillProps).length > 0)) && xv5 p.Kind (L p.Props) && xv5 16 (L p.WillProps) && ownN v p
theorem xv174 (v:Int) (q:fn60) (h:MidQ q):fn68 v q=some (xv8 v (nP q)):=by
 have h1:=h.wp;have h2:=h.pp
 have m:=h.toMidP
 obtain ⟨b,hb1,hb2⟩:=xv285 q
 obtain ⟨r1,r2,r3⟩:=xv64 v q h
 have c3:fn68_c3 v q (fun x=>some x)=some (xv5 q.Kind ((L q.Props).map pR) && xv5 16 ((L q.WillProps).map pR) && ownN v (nP q)):=by
  simp only [fn68_c3]
  rw [xv108 _ _ (by omega) h.pt]
  simp only [Option.bind_some]
  rw [xv108 _ _ (by omega) h.wt]
  simp only [Option.bind_some]
  rw [xv341 v q m]
  simp only [Option.bind_some]
  rw [show fn79 v (⟨q.Kind,q.Dup,q.Retain,q.QoS,q.Id,q.Clean,q.Keep,q.Client,q.HasWill,q.HasUser,q.HasPass,q.WillQoS,q.WillRetain,q.WillProps,q.WillTopic,q.WillLoad,q.User,q.Pass,q.Present,q.Code,q.Topic,q.Load,q.Filters,q.Codes,q.Props⟩:fn60)=_ from r1]
  simp only [Option.bind_some]
  rw [decide_eq_true r2]
  cases xv5 q.Kind ((L q.Props).map pR)<;>cases xv5 16 ((L q.WillProps).map pR)<;>cases ownN v (nP q)<;>rfl
 have hs:fn74 (⟨q.Kind,q.Dup,q.Retain,q.QoS,q.Id,q.Clean,q.Keep,q.Client,q.HasWill,q.HasUser,q.HasPass,q.WillQoS,q.WillRetain,q.WillProps,q.WillTopic,q.WillLoad,q.User,q.Pass,q.Present,q.Code,q.Topic,q.Load,q.Filters,q.Codes,q.Props⟩:fn60) b=some (decide (nP q=bareN (nP q))):=by
  rw [← hb2];exact xv318 q b m.toFewP
 have c1:∀ z:Bool,fn68_c1 v z q (some false) (fn68_c3 v q (fun x=>some x))=some (!z && (decide (nP q=bareN (nP q)) && xv11 (nP q) && !(decide (v=4) && decide ((L q.Props).length + (L q.WillProps).length > 0)) && (xv5 q.Kind ((L q.Props).map pR) && xv5 16 ((L q.WillProps).map pR) && ownN v (nP q)))):=by
  intro z
  rw [c3]
  simp only [fn68_c1,fn68_c2,hb1,Option.bind_some]
  rw [show fn74 (⟨q.Kind,q.Dup,q.Retain,q.QoS,q.Id,q.Clean,q.Keep,q.Client,q.HasWill,q.HasUser,q.HasPass,q.WillQoS,q.WillRetain,q.WillProps,q.WillTopic,q.WillLoad,q.User,q.Pass,q.Present,q.Code,q.Topic,q.Load,q.Filters,q.Codes,q.Props⟩:fn60) (⟨b.Kind,b.Dup,b.Retain,b.QoS,b.Id,b.Clean,b.Keep,b.Client,b.HasWill,b.HasUser,b.HasPass,b.WillQoS,b.WillRetain,b.WillProps,b.WillTopic,b.WillLoad,b.User,b.Pass,b.Present,b.Code,b.Topic,b.Load,b.Filters,b.Codes,b.Props⟩:fn60)=_ from hs]
  rw [show fn62 (⟨q.Kind,q.Dup,q.Retain,q.QoS,q.Id,q.Clean,q.Keep,q.Client,q.HasWill,q.HasUser,q.HasPass,q.WillQoS,q.WillRetain,q.WillProps,q.WillTopic,q.WillLoad,q.User,q.Pass,q.Present,q.Code,q.Topic,q.Load,q.Filters,q.Codes,q.Props⟩:fn60)=_ from xv281 q]
  simp only [Option.bind_some]
  rw [xv0 (x:=((L q.Props).length:Int) + ((L q.WillProps).length:Int)) (by omega) (by omega)]
  have hd:decide ((((L q.Props).length:Int) + ((L q.WillProps).length:Int)) > 0)=decide ((L q.Props).length + (L q.WillProps).length > 0):=decide_eq_decide.2 (by omega)
  rw [hd]
  generalize (xv5 q.Kind ((L q.Props).map pR) && xv5 16 ((L q.WillProps).map pR) && ownN v (nP q))=w
  generalize decide ((L q.Props).length + (L q.WillProps).length > 0)=y
  generalize decide (nP q=bareN (nP q))=s
  generalize xv11 (nP q)=t
  generalize decide (v=4)=f
  cases z<;>cases s<;>cases t<;>cases f<;>cases y<;>cases w<;>rfl
 have e:xv8 v (nP q)=(verB v q.Kind && (decide (nP q=bareN (nP q)) && xv11 (nP q) && !(decide (v=4) && decide ((L q.Props).length + (L q.WillProps).length > 0)) && (xv5 q.Kind ((L q.Props).map pR) && xv5 16 ((L q.WillProps).map pR) && ownN v (nP q)))):=by
  have e1:xv8 v (nP q)=(verB v q.Kind && decide (nP q=bareN (nP q)) && xv11 (nP q) && !(decide (v=4) && decide (((L q.Props).map pR).length + ((L q.WillProps).map pR).length > 0)) && xv5 q.Kind ((L q.Props).map pR) && xv5 16 ((L q.WillProps).map pR) && ownN v (nP q)):=rfl
  rw [e1,List.length_map,List.length_map]
  simp only [Bool.and_assoc]
 rw [e]
 simp only [fn68,fn68_c0,c1]
 generalize (decide (nP q=bareN (nP q)) && xv11 (nP q) && !(decide (v=4) && decide ((L q.Props).length + (L q.WillProps).length > 0)) && (xv5 q.Kind ((L q.Props).map pR) && xv5 16 ((L q.WillProps).map pR) && ownN v (nP q)))=w
 simp only [verB]
 by_cases v4:v=4
 ·by_cases ka:q.Kind < 1
  ·simp [v4,ka,show ¬ 1 ≤ q.Kind by omega]
  ·by_cases kb:q.Kind > 15
   ·simp [v4,ka,kb,show ¬ q.Kind ≤ 15 by omega]
   ·by_cases kc:q.Kind=15
    ·simp [v4,kc]
    ·simp [v4,ka,kb,kc,show 1 ≤ q.Kind by omega,show q.Kind ≤ 15 by omega]
 ·by_cases v5:v=5
  ·by_cases ka:q.Kind < 1
   ·simp [v5,ka,show ¬ 1 ≤ q.Kind by omega]
   ·by_cases kb:q.Kind > 15
    ·simp [v5,ka,kb,show ¬ q.Kind ≤ 15 by omega]
    ·simp [v5,ka,kb,show 1 ≤ q.Kind by omega,show q.Kind ≤ 15 by omega]
  ·simp [v4,v5]
end Go.Rv
namespace Go.Rv
theorem xv191 {α ω:Type} (l:List α) (step:Int->Option (Int ⊕ (ω ⊕ Unit))) (q:α->Bool) (w:α->ω)
 (hin:∀ i (h:i < l.length),step (i:Int)=some (if q l[i] then .inl ((i + 1:Nat):Int) else .inr (.inl (w l[i])))) (hout:step (l.length:Int)=some (.inr (.inr ()))) :
 (l.all q=true∧iter step 0=some (.inr ()))∨(l.all q=false∧∃ x,iter step 0=some (.inl x)):=by
 have:=xv19 l step (fun (_:Unit) i=>i) (fun (_:Unit) (a:α)=>if q a then (.inl ():Unit ⊕ (ω ⊕ Unit)) else .inr (.inl (w a))) (fun _=>.inr ()) (fun i s=>True)
  (fun s i hi hI=>by rw [hin i hi];cases q l[i]<;>rfl) (fun _ _ _ _ _ _=>trivial) (fun s hI=>hout) () trivial
 have key:∀ l:List α,(l.all q=true∧runL (fun (_:Unit) (a:α)=>if q a then (.inl ():Unit ⊕ (ω ⊕ Unit)) else .inr (.inl (w a))) (fun _=>.inr ()) () l=.inr ())∨(l.all q=false∧∃ x,runL (fun (_:Unit) (a:α)=>if q a then (.inl ():Unit ⊕ (ω ⊕ Unit)) else .inr (.inl (w a))) (fun _=>.inr ()) () l=.inl x):=by
  intro l
  induction l with
  | nil=>exact .inl ⟨rfl,rfl⟩
  | cons a l ih =>
   by_cases hq:q a=true
   ·rw [show (a::l).all q=l.all q by rw [List.all_cons,hq,Bool.true_and]]
    simp only [runL]
    rw [if_pos hq];exact ih
   ·right
    refine ⟨by rw [List.all_cons,show q a=false by simpa using hq,Bool.false_and],w a,?_⟩
    simp only [runL]
    rw [if_neg hq]
 rcases key l with ⟨h1,h2⟩|⟨h1,x,h2⟩
 ·exact .inl ⟨h1,by rw [this,h2]⟩
 ·exact .inr ⟨h1,x,by rw [this,h2]⟩
theorem xv215 (v k:Int) (hv:v=4∨v=5) (hk:k=8∨k=10) (f:fn112):wantN v k f=(xv12 f.Text && optR v k (xv23 f.Text).2.2 f.Opt):=by
 simp only [wantN,xv340 v k hv hk]
def xv39 (v:Int) (p:fn113):Bool :=
 (if p.Kind=8∨p.Kind=10 then xv15 v p else true) && (if p.Kind=9∨(p.Kind=11∧v=5) then xv6 (L p.Codes).length && (L p.Codes).all (knB v p.Kind) else true) && !(decide (p.Kind=11) && decide (v=4) && decide ((L p.Codes).length > 0))
theorem xv264 (v:Int) (p:fn113) (hv:v=4∨v=5) (hk:p.Kind=8∨p.Kind=10) (hl:(L p.Filters).length ≤ 1000) (ht:∀ f ∈ L p.Filters,f.Text.length ≤ 9000) :
 ((L p.Filters).all (wantN v p.Kind)=true∧iter (fn132_l1 v p) 0=some (.inr ()))∨((L p.Filters).all (wantN v p.Kind)=false∧∃ x,iter (fn132_l1 v p) 0=some (.inl x)):=by
 refine xv191 (L p.Filters) (fn132_l1 v p) (wantN v p.Kind) (fun f=>f) (fun i hi=>?_) (by simp only [fn132_l1,fn132_b1];rw [if_neg (by simp)])
 have hx:=ht _ (List.getElem_mem hi)
 simp only [fn132_l1,fn132_b1]
 rw [if_pos (by simp;omega),xv1,List.getElem?_eq_getElem hi,xv3 (by omega)]
 simp only [Option.bind_some]
 rw [xv82 _ hx]
 simp only [Option.bind_some]
 rw [xv81 _ hx]
 simp only [Option.bind_some]
 rw [chk_d (show (4:UInt8) ≠ 0 by decide),chk_d (show (2:UInt8) ≠ 0 by decide),xv215 v p.Kind hv hk]
 simp only [Option.bind_some,optR]
 generalize (L p.Filters)[i]=f
 cases h1:xv12 f.Text with
 | false=>simp
 | true =>
  by_cases h2:(f.Opt % (4:UInt8))=(3:UInt8)
  ·simp [h2]
  ·by_cases h6:f.Opt ≥ (48:UInt8)
   ·by_cases h7:p.Kind=10
    ·by_cases h4:f.Opt=(0:UInt8)
     ·rw [h4] at h6;exact absurd h6 (by decide)
     ·simp [h2,h7,h4]
    ·by_cases h8:v=4
     ·by_cases h5:f.Opt > (2:UInt8)<;>simp [h2,h6,h7,h8,h5]
     ·simp [h2,h6,h7,h8]
   ·by_cases h7:p.Kind=10
    ·by_cases h4:f.Opt=(0:UInt8)
     ·by_cases h8:v=4<;>cases h9:(xv23 f.Text).2.2<;>simp [h7,h4,h8]
     ·simp [h2,h7,h4]
    ·by_cases h8:v=4
     ·by_cases h5:f.Opt > (2:UInt8)
      ·simp [h2,h6,h7,h8,h5]
      ·cases h9:(xv23 f.Text).2.2 with
       | false=>simp [h2,h6,h7,h8,h5]
       | true=>by_cases h3:(f.Opt / (4:UInt8) % (2:UInt8))=(1:UInt8)<;>simp [h2,h6,h7,h8,h5,h3]
     ·cases h9:(xv23 f.Text).2.2 with
      | false=>simp [h2,h6,h7,h8]
      | true=>by_cases h3:(f.Opt / (4:UInt8) % (2:UInt8))=(1:UInt8)<;>simp [h2,h6,h7,h8,h3]
theorem xv265 (v:Int) (p:fn113) (hl:(L p.Codes).length ≤ 100000):iter (fn132_l5 v p) 0=some (if (L p.Codes).all (knB v p.Kind) then .inr () else .inl ()):=by
 refine xv86 (L p.Codes) (fn132_l5 v p) (knB v p.Kind) (fun i hi=>?_) (by simp only [fn132_l5,fn132_b5];rw [if_neg (by simp)])
 simp only [fn132_l5,fn132_b5]
 rw [if_pos (by simp;omega),xv1,List.getElem?_eq_getElem hi,xv3 (by omega)]
 simp only [Option.bind_some]
 rw [xv42]
 simp only [Option.bind_some]
 exact nif _ _ _
theorem xv263 (v:Int) (p:fn113) (hv:v=4∨v=5) (hl:(L p.Filters).length ≤ 1000) (ht:∀ f ∈ L p.Filters,f.Text.length ≤ 9000) (hc:(L p.Codes).length ≤ 100000):fn132 v p=some (xv39 v (nR p)):=by
 have e:xv39 v (nR p)=((if p.Kind=8∨p.Kind=10 then (xv6 (L p.Filters).length && (L p.Filters).all (wantN v p.Kind)) else true) && (if p.Kind=9∨(p.Kind=11∧v=5) then xv6 (L p.Codes).length && (L p.Codes).all (knB v p.Kind) else true) && !(decide (p.Kind=11) && decide (v=4) && decide ((L p.Codes).length > 0))):=rfl
 rw [e]
 have c6:fn132_c6 v p (fun x=>some x)=some (!(decide (p.Kind=11) && decide (v=4) && decide ((L p.Codes).length > 0))):=by
  simp only [fn132_c6]
  have hd:decide (((L p.Codes).length:Int) > 0)=decide ((L p.Codes).length > 0):=decide_eq_decide.2 (by omega)
  rw [hd]
  by_cases k11:p.Kind=11<;>by_cases v4:v=4<;>simp [k11,v4]
 have c4:∀ (x:Bool) (k2:Option Bool) (b:Bool),k2=some b->fn132_c4 v x p (some false) k2=some ((!x || (xv6 (L p.Codes).length && (L p.Codes).all (knB v p.Kind))) && b):=by
  intro x k2 b hk
  subst hk
  simp only [fn132_c4,xv265 v p hc,xv6]
  cases x with
  | false=>rfl
  | true =>
   rw [if_pos rfl]
   by_cases h1:(L p.Codes).length < 1
   ·rw [if_pos (show decide (((L p.Codes).length:Int) < 1)=true from decide_eq_true (by omega)),decide_eq_false (show ¬ 1 ≤ (L p.Codes).length by omega)];rfl
   ·rw [if_neg (show ¬ decide (((L p.Codes).length:Int) < 1)=true by rw [decide_eq_true_eq];omega),decide_eq_true (show 1 ≤ (L p.Codes).length by omega)]
    by_cases h2:(L p.Codes).length > 1024
    ·rw [if_pos (show decide (((L p.Codes).length:Int) > 1024)=true from decide_eq_true (by omega)),decide_eq_false (show ¬ (L p.Codes).length ≤ 1024 by omega)];rfl
    ·rw [if_neg (show ¬ decide (((L p.Codes).length:Int) > 1024)=true by rw [decide_eq_true_eq];omega),decide_eq_true (show (L p.Codes).length ≤ 1024 by omega)]
     cases (L p.Codes).all (knB v p.Kind) with
     | true=>simp
     | false=>simp
 have c3:fn132_c3 v p (fun x=>some x)=some ((if p.Kind=9∨(p.Kind=11∧v=5) then xv6 (L p.Codes).length && (L p.Codes).all (knB v p.Kind) else true) && !(decide (p.Kind=11) && decide (v=4) && decide ((L p.Codes).length > 0))):=by
  simp only [fn132_c3]
  by_cases k9:p.Kind=9
  ·rw [if_pos (by simpa using k9),c4 true _ _ c6,if_pos (show p.Kind=9∨(p.Kind=11∧v=5) from .inl k9)];rfl
  ·rw [if_neg (by simpa using k9)]
   by_cases k11:p.Kind=11
   ·rw [if_pos (by simpa using k11),c4 _ _ _ c6]
    by_cases v5:v=5
    ·rw [if_pos (show p.Kind=9∨(p.Kind=11∧v=5) from .inr ⟨k11,v5⟩),decide_eq_true v5];rfl
    ·rw [if_neg (show ¬ (p.Kind=9∨(p.Kind=11∧v=5)) by rintro (h|h);exact k9 h;exact v5 h.2),decide_eq_false v5];rfl
   ·rw [if_neg (by simpa using k11),c4 false _ _ c6,if_neg (show ¬ (p.Kind=9∨(p.Kind=11∧v=5)) by rintro (h|h);exact k9 h;exact k11 h.1)];rfl
 have c0:∀ (x:Bool) (hx:x=true->p.Kind=8∨p.Kind=10) (k2:fn112->Option Bool) (hk2:∀ f,k2 f=some false) (k3:Option Bool) (b:Bool),k3=some b->fn132_c0 v x p (some false) k2 k3=some ((!x || (xv6 (L p.Filters).length && (L p.Filters).all (wantN v p.Kind))) && b):=by
  intro x hx k2 hk2 k3 b hk3
  subst hk3
  simp only [fn132_c0,xv6]
  cases x with
  | false=>rfl
  | true =>
   rw [if_pos rfl]
   by_cases h1:(L p.Filters).length < 1
   ·rw [if_pos (show decide (((L p.Filters).length:Int) < 1)=true from decide_eq_true (by omega)),decide_eq_false (show ¬ 1 ≤ (L p.Filters).length by omega)];rfl
   ·rw [if_neg (show ¬ decide (((L p.Filters).length:Int) < 1)=true by rw [decide_eq_true_eq];omega),decide_eq_true (show 1 ≤ (L p.Filters).length by omega)]
    by_cases h2:(L p.Filters).length > 1024
    ·rw [if_pos (show decide (((L p.Filters).length:Int) > 1024)=true from decide_eq_true (by omega)),decide_eq_false (show ¬ (L p.Filters).length ≤ 1024 by omega)];rfl
    ·rw [if_neg (show ¬ decide (((L p.Filters).length:Int) > 1024)=true by rw [decide_eq_true_eq];omega),decide_eq_true (show (L p.Filters).length ≤ 1024 by omega)]
     rcases xv264 v p hv (hx rfl) hl ht with ⟨e1,e2⟩|⟨e1,y,e2⟩
     ·rw [e1,e2];simp
     ·rw [e1,e2]
      simp only [Option.bind_some,hk2]
      simp
 simp only [fn132]
 by_cases k8:p.Kind=8
 ·rw [if_pos (by simpa using k8),c0 true (fun _=>.inl k8) _ (fun _=>rfl) _ _ c3,if_pos (show p.Kind=8∨p.Kind=10 from .inl k8)]
  simp [Bool.and_assoc]
 ·rw [if_neg (by simpa using k8)]
  by_cases k10:p.Kind=10
  ·rw [c0 _ (fun _=>.inr k10) _ (fun _=>rfl) _ _ c3,if_pos (show p.Kind=8∨p.Kind=10 from .inr k10),decide_eq_true k10]
   simp [Bool.and_assoc]
  ·rw [c0 _ (fun h=>.inr (by simpa using h)) _ (fun _=>rfl) _ _ c3,if_neg (show ¬ (p.Kind=8∨p.Kind=10) by rintro (h|h);exact k8 h;exact k10 h),decide_eq_false k10]
   simp
theorem xv18:good []=true:=by kernel_rfl
theorem xv50:textB []=true:=by simp [textB,xv18]
theorem xv107 {s:List UInt8} (h:nameB s=true):good s=true:=by
 simp only [nameB,Bool.and_eq_true] at h
 exact h.1.2
end Go.Rv
namespace Go.Rv
def conR (p:fn113):Bool:=decide (p.Pass.length ≤ 65535) && decide (p.WillLoad.length ≤ 65535) && good p.Client && good p.User
def ownR (v:Int) (p:fn113):Bool :=
 !(decide (4 ≤ p.Kind) && decide (p.Kind ≤ 11) && decide (p.Id=0)) && xv39 v p &&
 (if p.Kind=1 then conN v p && conR p
  else if p.Kind=2 then knB v 2 p.Code && !(p.Present && !decide (p.Code=0))
  else if p.Kind=3 then pubN v p
  else if p.Kind=4∨p.Kind=5∨p.Kind=6∨p.Kind=7∨p.Kind=14 then knB v p.Kind p.Code
  else if p.Kind=15 then knB v 15 p.Code && hasId (L p.Props) 21
  else true)
theorem FewR.ptm {p:fn113} (h:FewR p):∀ x ∈ L p.Props,x.A.length ≤ 9000∧x.B.length ≤ 9000:=fun x hx=>by have:=h.pt x hx;omega
theorem FewR.wtm {p:fn113} (h:FewR p):∀ x ∈ L p.WillProps,x.A.length ≤ 9000∧x.B.length ≤ 9000:=fun x hx=>by have:=h.wt x hx;omega
theorem FewR.ftm {p:fn113} (h:FewR p):∀ x ∈ L p.Filters,x.Text.length ≤ 9000:=fun x hx=>by have:=h.ft x hx;omega
structure MidR (p:fn113):Prop where
 wp:(L p.WillProps).length ≤ 1000
 pp:(L p.Props).length ≤ 1000
 fl:(L p.Filters).length ≤ 1000
 cd:(L p.Codes).length ≤ 100000
 ft:∀ f ∈ L p.Filters,f.Text.length ≤ 9000
 pt:∀ x ∈ L p.Props,x.A.length ≤ 9000∧x.B.length ≤ 9000
 wt:∀ x ∈ L p.WillProps,x.A.length ≤ 9000∧x.B.length ≤ 9000
 cl:p.Client.length ≤ 9000
 tp:p.Topic.length ≤ 9000
 wo:p.WillTopic.length ≤ 9000
 us:p.User.length ≤ 9000
 ld:p.Load.length ≤ 1000000
 ps:p.Pass.length ≤ 1000000
 wl:p.WillLoad.length ≤ 1000000
theorem FewR.mid {p:fn113} (h:FewR p):MidR p:=by
 have h0:=h.tx;have h1:=h.wp;have h2:=h.pp;have h3:=h.fl
 exact ⟨by omega,by omega,by omega,by omega,h.ftm,h.ptm,h.wtm,by omega,by omega,by omega,by omega,by omega,by omega,by omega⟩
theorem MidR.toQ {p:fn113} (h:MidR p):MidQ (toP p):=by
 have h1:=h.wp;have h2:=h.pp;have h3:=h.fl;have h4:=h.cd
 have pm:∀ o:Option (List fn163),(∀ x ∈ L o,x.A.length ≤ 9000∧x.B.length ≤ 9000)->∀ x ∈ L (mapO pQ o),x.A.length ≤ 9000∧x.B.length ≤ 9000:=fun o ho x hx=>by
  rw [xv132] at hx
  obtain ⟨y,hy,rfl⟩:=List.mem_map.1 hx
  exact ho y hy
 refine ⟨⟨⟨?_,?_,?_,?_⟩,?_,?_,?_,h.cl,h.tp,h.wo,h.us⟩,h.ld,h.ps,h.wl⟩
 ·show (L (mapO pQ p.WillProps)).length ≤ 1000;rw [xv132,List.length_map];omega
 ·show (L (mapO pQ p.Props)).length ≤ 1000;rw [xv132,List.length_map];omega
 ·show (L (mapO fQ p.Filters)).length ≤ 1000;rw [xv132,List.length_map];omega
 ·exact h4
 ·intro f hf
  have hf:f ∈ L (mapO fQ p.Filters):=hf
  rw [xv132] at hf
  obtain ⟨y,hy,rfl⟩:=List.mem_map.1 hf
  exact h.ft y hy
 ·exact pm p.Props h.pt
 ·exact pm p.WillProps h.wt
theorem xv273 (v:Int) (hv:v=4∨v=5) (p:fn113) (h:MidR p) :
 fn133_c2 v p (fun x=>some x) (fun x y=>some x)=some (if p.Kind=1 then conN v (nR p) && conR p
 else if p.Kind=2 then knB v 2 p.Code && !(p.Present && !decide (p.Code=0))
 else if p.Kind=3 then pubN v (nR p)
 else if p.Kind=4∨p.Kind=5∨p.Kind=6∨p.Kind=7∨p.Kind=14 then knB v p.Kind p.Code
 else if p.Kind=15 then knB v 15 p.Code && hasId (L p.Props) 21
 else true):=by
 have h2:=h.pp
 simp only [fn133_c2,fn133_c3,xv42,xv41 p.Props 21 (by omega),Option.bind_some,xv52]
 rw [show fn81 v (⟨p.Kind,p.Dup,p.Retain,p.QoS,p.Id,p.Clean,p.Keep,p.Client,p.HasWill,p.HasUser,p.HasPass,p.WillQoS,p.WillRetain,p.WillProps,p.WillTopic,p.WillLoad,p.User,p.Pass,p.Present,p.Code,p.Topic,p.Load,p.Filters,p.Codes,p.Props⟩:fn113)=_ from xv137 v hv p h.wo h.cl h.us,
  show fn82 v (⟨p.Kind,p.Dup,p.Retain,p.QoS,p.Id,p.Clean,p.Keep,p.Client,p.HasWill,p.HasUser,p.HasPass,p.WillQoS,p.WillRetain,p.WillProps,p.WillTopic,p.WillLoad,p.User,p.Pass,p.Present,p.Code,p.Topic,p.Load,p.Filters,p.Codes,p.Props⟩:fn113)=_ from xv140 v p h.tp (by omega)]
 simp only [Option.bind_some]
 by_cases k1:p.Kind=1
 ·simp [k1,conR,Bool.and_assoc]
 ·by_cases k2:p.Kind=2
  ·cases a1:knB v 2 p.Code<;>cases a2:p.Present<;>by_cases a3:p.Code=0<;>simp [k2,a3]
  ·by_cases k3:p.Kind=3
   ·simp [k3]
   ·by_cases k4:p.Kind=4
    ·simp [k4]
    ·by_cases k5:p.Kind=5
     ·simp [k5]
     ·by_cases k6:p.Kind=6
      ·simp [k6]
      ·by_cases k7:p.Kind=7
       ·simp [k7]
       ·by_cases k14:p.Kind=14
        ·simp [k14]
        ·by_cases k15:p.Kind=15
         ·cases a1:knB v 15 p.Code<;>simp [k15]
         ·simp [k1,k2,k3,k4,k5,k6,k7,k14,k15]
theorem xv272 (v:Int) (hv:v=4∨v=5) (p:fn113) (h:MidR p):fn133_c1 v p (fun x=>some x) (fun x y=>some x)=some (ownR v (nR p)):=by
 have e:ownR v (nR p)=(!(decide (4 ≤ p.Kind) && decide (p.Kind ≤ 11) && decide (p.Id=0)) && xv39 v (nR p) && (if p.Kind=1 then conN v (nR p) && conR p
  else if p.Kind=2 then knB v 2 p.Code && !(p.Present && !decide (p.Code=0))
  else if p.Kind=3 then pubN v (nR p)
  else if p.Kind=4∨p.Kind=5∨p.Kind=6∨p.Kind=7∨p.Kind=14 then knB v p.Kind p.Code
  else if p.Kind=15 then knB v 15 p.Code && hasId (L p.Props) 21
  else true)):=rfl
 rw [e]
 simp only [fn133_c1]
 rw [xv273 v hv p h]
 rw [show fn132 v (⟨p.Kind,p.Dup,p.Retain,p.QoS,p.Id,p.Clean,p.Keep,p.Client,p.HasWill,p.HasUser,p.HasPass,p.WillQoS,p.WillRetain,p.WillProps,p.WillTopic,p.WillLoad,p.User,p.Pass,p.Present,p.Code,p.Topic,p.Load,p.Filters,p.Codes,p.Props⟩:fn113)=_ from xv263 v p hv h.fl h.ft h.cd]
 simp only [Option.bind_some]
 generalize (if p.Kind=1 then conN v (nR p) && conR p
  else if p.Kind=2 then knB v 2 p.Code && !(p.Present && !decide (p.Code=0))
  else if p.Kind=3 then pubN v (nR p)
  else if p.Kind=4∨p.Kind=5∨p.Kind=6∨p.Kind=7∨p.Kind=14 then knB v p.Kind p.Code
  else if p.Kind=15 then knB v 15 p.Code && hasId (L p.Props) 21
  else true)=z
 by_cases a:p.Kind ≥ 4<;>by_cases b:p.Kind ≤ 11<;>by_cases c:p.Id=0<;>cases d:xv39 v (nR p)<;>simp [a,b,c,show (4 ≤ p.Kind) ↔ p.Kind ≥ 4 from Iff.rfl]
theorem xv173 (v:Int) (hv:v=4∨v=5) (p:fn113) (h:MidR p):fn133_c0 v p (fun x=>some x) (fun x y=>some x) =
 some (!(decide (v=4) && decide ((L p.Props).length + (L p.WillProps).length > 0)) && xv5 p.Kind (L p.Props) && xv5 16 (L p.WillProps) && ownR v (nR p)):=by
 have h1:=h.wp;have h2:=h.pp
 simp only [fn133_c0]
 rw [xv272 v hv p h,xv114 _ _ (by omega) h.pt,xv114 _ _ (by omega) h.wt]
 simp only [Option.bind_some]
 have hd1:decide (((L p.Props).length:Int) > 0)=decide ((L p.Props).length > 0):=decide_eq_decide.2 (by omega)
 have hd2:decide (((L p.WillProps).length:Int) > 0)=decide ((L p.WillProps).length > 0):=decide_eq_decide.2 (by omega)
 rw [hd1,hd2]
 have hs0:∀ x y:Nat,decide (x + y > 0)=(decide (x > 0) || decide (y > 0)):=by
  intro x y
  by_cases a:x > 0
  ·rw [decide_eq_true a,decide_eq_true (show x + y > 0 by omega),Bool.true_or]
  ·rw [decide_eq_false a,Bool.false_or]
   exact decide_eq_decide.2 (by omega)
 have hs:=hs0 (L p.Props).length (L p.WillProps).length
 rw [hs]
 generalize decide ((L p.Props).length > 0)=a
 generalize decide ((L p.WillProps).length > 0)=b
 generalize decide (v=4)=f
 generalize xv5 p.Kind (L p.Props)=c
 generalize xv5 16 (L p.WillProps)=d
 cases f<;>cases a<;>cases b<;>cases c<;>cases d<;>rfl
theorem xv270 (v:Int) (hv:v=4∨v=5) (p:fn113) (hk:1 ≤ p.Kind∧p.Kind ≤ 15) (hb:p=bareN p) (h:MidR p):(xv11 p && ownN v p)=ownR v p:=by
 have l1:=h.cl;have l2:=h.tp;have l3:=h.wo;have l4:=h.us
 have tb:∀ s:List UInt8,s.length ≤ 9000->textB s=good s:=fun s hs=>by simp only [textB];rw [decide_eq_true (by omega),Bool.true_and]
 by_cases k1:p.Kind=1
 ·have hb1:=hb
  unfold bareN at hb1
  rw [if_pos k1] at hb1
  have t1:p.Topic=[]:=by rw [hb1]
  have wt:p.HasWill=false->p.WillTopic=[]:=fun hw=>by rw [hb1];simp [hw]
  have e1:ownN v p=conN v p:=by simp only [ownN,k1,if_true]
  have e2:ownR v p=(conN v p && conR p):=by simp [ownR,xv39,k1]
  rw [e1,e2]
  simp only [xv11,conR]
  rw [tb _ l1,tb _ l3,tb _ l4,t1,xv50]
  cases hc:conN v p with
  | false=>simp
  | true =>
   have hg:good p.WillTopic=true:=by
    cases hw:p.HasWill with
    | false=>rw [wt hw];exact xv18
    | true =>
     simp only [conN,hw,Bool.true_and,Bool.and_eq_true,Bool.not_eq_true',Bool.or_eq_false_iff,Bool.not_eq_false'] at hc
     exact xv107 hc.1.2
   rw [hg]
   cases good p.Client<;>cases good p.User<;>cases decide (p.WillLoad.length ≤ 65535)<;>cases decide (p.Pass.length ≤ 65535)<;>rfl
 ·-- all others have no texts but the topic
  have hz:p.Client=[]∧p.WillTopic=[]∧p.User=[]∧p.WillLoad=[]∧p.Pass=[]∧(p.Kind ≠ 3->p.Topic=[]):=by
   have hb1:=hb
   unfold bareN at hb1
   rw [if_neg k1] at hb1
   by_cases k2:p.Kind=2
   ·rw [if_pos k2] at hb1;refine ⟨?_,?_,?_,?_,?_,fun _=>?_⟩<;>(rw [hb1];try rfl)
   ·rw [if_neg k2] at hb1
    by_cases k3:p.Kind=3
    ·rw [if_pos k3] at hb1;refine ⟨?_,?_,?_,?_,?_,fun q=>absurd k3 q⟩<;>(rw [hb1];try rfl)
    ·rw [if_neg k3] at hb1
     split at hb1
     ·refine ⟨?_,?_,?_,?_,?_,fun _=>?_⟩<;>(rw [hb1];try rfl)
     ·split at hb1
      ·refine ⟨?_,?_,?_,?_,?_,fun _=>?_⟩<;>(rw [hb1];try rfl)
      ·split at hb1
       ·refine ⟨?_,?_,?_,?_,?_,fun _=>?_⟩<;>(rw [hb1];try rfl)
       ·split at hb1
        ·refine ⟨?_,?_,?_,?_,?_,fun _=>?_⟩<;>(rw [hb1];try rfl)
        ·refine ⟨?_,?_,?_,?_,?_,fun _=>?_⟩<;>(rw [hb1];try rfl)
  obtain ⟨z1,z2,z3,z4,z5,z6⟩:=hz
  have et:xv11 p=textB p.Topic:=by
   simp only [xv11]
   rw [z1,z2,z3,z4,z5,xv50]
   simp
  rw [et]
  by_cases k3:p.Kind=3
  ·have e1:ownN v p=pubN v p:=by simp [ownN,k3]
   have e2:ownR v p=pubN v p:=by simp [ownR,xv39,k3]
   rw [e1,e2,tb _ l2]
   cases hc:pubN v p with
   | false=>simp
   | true =>
    simp only [pubN,Bool.and_eq_true,Bool.or_eq_true,decide_eq_true_eq] at hc
    rcases hc.2 with q|q
    ·rw [xv107 q];rfl
    ·rw [q.1.2,xv18];rfl
  ·rw [z6 k3,xv50,Bool.true_and]
   by_cases k2:p.Kind=2
   ·simp only [ownN,ownR,xv39,k2]
    cases knB v 2 p.Code<;>cases p.Present<;>by_cases q:p.Code=0<;>simp [q]
   ·by_cases k8:p.Kind=8∨p.Kind=10
    ·have n1:¬ (p.Kind=9∨(p.Kind=11∧v=5)):=by omega
     have e1:ownN v p=(!decide (p.Id=0) && xv15 v p):=by simp only [ownN];rw [if_neg k1,if_neg k2,if_neg k3,if_pos k8]
     have e2:ownR v p=(!decide (p.Id=0) && xv15 v p):=by
      simp only [ownR,xv39]
      rw [if_pos k8,if_neg n1,if_neg k1,if_neg k2,if_neg k3,if_neg (show ¬ (p.Kind=4∨p.Kind=5∨p.Kind=6∨p.Kind=7∨p.Kind=14) by omega),if_neg (show ¬ p.Kind=15 by omega),decide_eq_true (show 4 ≤ p.Kind by omega),decide_eq_true (show p.Kind ≤ 11 by omega),decide_eq_false (show ¬ p.Kind=11 by omega)]
      simp
     rw [e1,e2]
    ·by_cases k9:p.Kind=9∨p.Kind=11
     ·have e1:ownN v p=(!decide (p.Id=0) && xv51 v p):=by simp only [ownN];rw [if_neg k1,if_neg k2,if_neg k3,if_neg k8,if_pos k9]
      have e2:ownR v p=(!decide (p.Id=0) && xv51 v p):=by
       simp only [ownR,xv39]
       rw [if_neg k8,if_neg k1,if_neg k2,if_neg k3,if_neg (show ¬ (p.Kind=4∨p.Kind=5∨p.Kind=6∨p.Kind=7∨p.Kind=14) by omega),if_neg (show ¬ p.Kind=15 by omega),decide_eq_true (show 4 ≤ p.Kind by omega),decide_eq_true (show p.Kind ≤ 11 by omega)]
       simp only [xv51]
       by_cases k11:p.Kind=11
       ·rcases hv with rfl|rfl
        ·rw [if_neg (show ¬ (p.Kind=9∨(p.Kind=11∧(4:Int)=5)) by omega),if_pos (show (4:Int)=4∧p.Kind=11 from ⟨rfl,k11⟩),decide_eq_true k11]
         have:(!decide ((L p.Codes).length > 0))=decide ((L p.Codes).length=0):=by cases (L p.Codes).length<;>simp
         rw [← this]
         simp
        ·rw [if_pos (show (p.Kind=9∨(p.Kind=11∧(5:Int)=5)) from .inr ⟨k11,rfl⟩),if_neg (show ¬ ((5:Int)=4∧p.Kind=11) by omega)]
         simp
       ·rw [if_pos (show (p.Kind=9∨(p.Kind=11∧v=5)) by omega),if_neg (show ¬ (v=4∧p.Kind=11) by omega),decide_eq_false k11]
        simp
      rw [e1,e2]
     ·have n9:¬ (p.Kind=9∨(p.Kind=11∧v=5)):=by omega
      by_cases k12:p.Kind=12∨p.Kind=13
      ·have e1:ownN v p=true:=by simp only [ownN];rw [if_neg k1,if_neg k2,if_neg k3,if_neg k8,if_neg k9,if_pos k12]
       have e2:ownR v p=true:=by
        simp only [ownR,xv39]
        rw [if_neg k8,if_neg n9,if_neg k1,if_neg k2,if_neg k3,if_neg (show ¬ (p.Kind=4∨p.Kind=5∨p.Kind=6∨p.Kind=7∨p.Kind=14) by omega),if_neg (show ¬ p.Kind=15 by omega),decide_eq_false (show ¬ p.Kind ≤ 11 by omega),decide_eq_false (show ¬ p.Kind=11 by omega)]
        simp
       rw [e1,e2]
      ·by_cases k14:p.Kind=14
       ·have e1:ownN v p=knB v p.Kind p.Code:=by simp only [ownN];rw [if_neg k1,if_neg k2,if_neg k3,if_neg k8,if_neg k9,if_neg k12,if_pos k14]
        have e2:ownR v p=knB v p.Kind p.Code:=by
         simp only [ownR,xv39]
         rw [if_neg k8,if_neg n9,if_neg k1,if_neg k2,if_neg k3,if_pos (show (p.Kind=4∨p.Kind=5∨p.Kind=6∨p.Kind=7∨p.Kind=14) by omega),decide_eq_false (show ¬ p.Kind ≤ 11 by omega),decide_eq_false (show ¬ p.Kind=11 by omega)]
         simp
        rw [e1,e2]
       ·by_cases k15:p.Kind=15
        ·have e1:ownN v p=(knB v 15 p.Code && hasId (L p.Props) 21):=by simp only [ownN];rw [if_neg k1,if_neg k2,if_neg k3,if_neg k8,if_neg k9,if_neg k12,if_neg k14,if_pos k15,k15]
         have e2:ownR v p=(knB v 15 p.Code && hasId (L p.Props) 21):=by
          simp only [ownR,xv39]
          rw [if_neg k8,if_neg n9,if_neg k1,if_neg k2,if_neg k3,if_neg (show ¬ (p.Kind=4∨p.Kind=5∨p.Kind=6∨p.Kind=7∨p.Kind=14) by omega),if_pos k15,decide_eq_false (show ¬ p.Kind ≤ 11 by omega),decide_eq_false (show ¬ p.Kind=11 by omega)]
          simp
         rw [e1,e2]
        ·have e1:ownN v p=(!decide (p.Id=0) && knB v p.Kind p.Code):=by simp only [ownN];rw [if_neg k1,if_neg k2,if_neg k3,if_neg k8,if_neg k9,if_neg k12,if_neg k14,if_neg k15]
         have e2:ownR v p=(!decide (p.Id=0) && knB v p.Kind p.Code):=by
          simp only [ownR,xv39]
          rw [if_neg k8,if_neg n9,if_neg k1,if_neg k2,if_neg k3,if_pos (show (p.Kind=4∨p.Kind=5∨p.Kind=6∨p.Kind=7∨p.Kind=14) by omega),decide_eq_true (show 4 ≤ p.Kind by omega),decide_eq_true (show p.Kind ≤ 11 by omega),decide_eq_false (show ¬ p.Kind=11 by omega)]
          simp
         rw [e1,e2]
theorem xv175 (v:Int) (p:fn113) (h:MidR p):fn133 v p=some (xv8 v (nR p)):=by
 have h1:=h.wp;have h2:=h.pp;have h3:=h.fl
 obtain ⟨b,hb1,hb2⟩:=xv170 p
 have hs:fn148 p b=some (decide (nR p=bareN (nR p))):=by rw [xv274 p b h1 h2 h3,hb2]
 have hmid:MidR (nR p):=⟨h.wp,h.pp,h.fl,h.cd,h.ft,h.pt,h.wt,h.cl,h.tp,h.wo,h.us,h.ld,h.ps,h.wl⟩
 have e:xv8 v (nR p)=(verB v p.Kind && (decide (nR p=bareN (nR p)) && (!(decide (v=4) && decide ((L p.Props).length + (L p.WillProps).length > 0)) && xv5 p.Kind (L p.Props) && xv5 16 (L p.WillProps) && ownR v (nR p)))):=by
  have e1:xv8 v (nR p)=(verB v p.Kind && decide (nR p=bareN (nR p)) && xv11 (nR p) && !(decide (v=4) && decide ((L p.Props).length + (L p.WillProps).length > 0)) && xv5 p.Kind (L p.Props) && xv5 16 (L p.WillProps) && ownN v (nR p)):=rfl
  rw [e1]
  cases hv:verB v p.Kind with
  | false=>simp
  | true =>
   by_cases hbare:nR p=bareN (nR p)
   ·have hv2:(v=4∨v=5)∧1 ≤ p.Kind∧p.Kind ≤ 15:=by
     simp only [verB,Bool.and_eq_true,Bool.or_eq_true,decide_eq_true_eq] at hv
     exact ⟨hv.1.1.1,hv.1.1.2,hv.1.2⟩
    have:=xv270 v hv2.1 (nR p) hv2.2 hbare hmid
    rw [decide_eq_true hbare,← this]
    cases xv11 (nR p)<;>simp
   ·rw [decide_eq_false hbare];simp
 rw [e]
 simp only [fn133]
 rw [show fn146 (⟨p.Kind,p.Dup,p.Retain,p.QoS,p.Id,p.Clean,p.Keep,p.Client,p.HasWill,p.HasUser,p.HasPass,p.WillQoS,p.WillRetain,p.WillProps,p.WillTopic,p.WillLoad,p.User,p.Pass,p.Present,p.Code,p.Topic,p.Load,p.Filters,p.Codes,p.Props⟩:fn113)=_ from hb1]
 simp only [Option.bind_some]
 rw [show fn148 p (⟨b.Kind,b.Dup,b.Retain,b.QoS,b.Id,b.Clean,b.Keep,b.Client,b.HasWill,b.HasUser,b.HasPass,b.WillQoS,b.WillRetain,b.WillProps,b.WillTopic,b.WillLoad,b.User,b.Pass,b.Present,b.Code,b.Topic,b.Load,b.Filters,b.Codes,b.Props⟩:fn113)=_ from hs]
 simp only [Option.bind_some]
 by_cases v4:v=4
 ·rw [xv173 v (.inl v4) p h]
  by_cases ka:p.Kind < 1
  ·simp [verB,v4,ka,show ¬ 1 ≤ p.Kind by omega]
  ·by_cases kb:p.Kind > 15
   ·simp [verB,v4,ka,kb,show ¬ p.Kind ≤ 15 by omega]
   ·by_cases kc:p.Kind=15
    ·simp [verB,v4,kc]
    ·simp only [verB]
     generalize decide (nR p=bareN (nR p))=s
     cases s<;>simp [v4,ka,kb,kc,show 1 ≤ p.Kind by omega,show p.Kind ≤ 15 by omega]
 ·by_cases v5:v=5
  ·rw [xv173 v (.inr v5) p h]
   by_cases ka:p.Kind < 1
   ·simp [verB,v5,ka,show ¬ 1 ≤ p.Kind by omega]
   ·by_cases kb:p.Kind > 15
    ·simp [verB,v5,ka,kb,show ¬ p.Kind ≤ 15 by omega]
    ·simp only [verB]
     generalize decide (nR p=bareN (nR p))=s
     cases s<;>simp [v5,ka,kb,show 1 ≤ p.Kind by omega,show p.Kind ≤ 15 by omega]
  ·simp [verB,v4,v5]
end Go.Rv
namespace Go.Rv
theorem toEq (p:fn113) (h:FewR p):l07_To p=some (toP p):=by
 have h1:=h.wp;have h2:=h.pp;have h3:=h.fl;have h4:=h.tx
 exact to_eq p (by omega) (by omega) (by omega) (by omega)
end Go.Rv
namespace Go.Rv
end Go.Rv
namespace Go.Rv
abbrev SrtP (l:List fn163):Prop:=l.Pairwise (fun a b=>a.Id ≤ b.Id)
theorem xv184 {α:Type}:∀ (p:List α) (y z:α) (t:List α),setR (p++y::t) p.length z=p++z::t
 | [],_,_,_=>rfl
 | a::p,y,z,t=>by simp only [List.cons_append,List.length_cons,setR];rw [xv184 p]
theorem xv323 {α:Type} {l:List α} {k:Nat} (h:l.length=k + 1):∃ l' z,l=l'++[z]∧l'.length=k:=by
 have hne:l ≠ []:=by intro e;rw [e] at h;simp at h
 exact ⟨l.dropLast,l.getLast hne,(List.dropLast_concat_getLast hne).symm,by rw [List.length_dropLast];omega⟩
theorem xv301 (n:Nat) (hn:n ≤ 100000):∀ (k:Nat) (pre:List fn163) (y:fn163) (seg rest:List fn163),pre.length=k->(pre++y::(seg++rest)).length=n->SrtP (pre++seg)->(∀ s ∈ seg,y.Id < s.Id) ->
 ∃ l',iter (fn111_l1 n) ((k:Int),pre++y::(seg++rest))=some (l'++rest)∧SrtP l'∧l'.Perm (pre++y::seg)
 | 0,pre,y,seg,rest,hk,hl,hs,hy=>by
  have:pre=[]:=List.length_eq_zero_iff.1 hk
  subst this
  refine ⟨y::seg,?_,List.pairwise_cons.2 ⟨fun s h=>UInt8.le_of_lt (hy s h),by simpa using hs⟩,by simp⟩
  rw [yv700]
  simp only [fn111_l1,fn111_b1]
  rw [if_neg (by simp)]
  simp
 | k + 1,pre,y,seg,rest,hk,hl,hs,hy=>by
  obtain ⟨pre,z,rfl,hk'⟩:=xv323 hk
  have hlen:k + 1 + (1 + seg.length + rest.length)=n:=by simp only [List.length_append,List.length_cons,List.length_nil] at hl;omega
  have e1:w64 (((k + 1:Nat):Int) - 1)=(k:Int):=by rw [xv0 (by omega) (by omega)];omega
  have g1:((pre++[z])++y::(seg++rest))[k]?=some z:=by rw [List.append_assoc,← hk'];simp
  have g2:((pre++[z])++y::(seg++rest))[k + 1]?=some y:=by rw [← hk];simp
  have s1:setR ((pre++[z])++y::(seg++rest)) k y=pre++y::(y::(seg++rest)):=by rw [List.append_assoc,← hk'];exact xv184 _ _ _ _
  have s2:setR (pre++y::(y::(seg++rest))) (k + 1) z=pre++y::(z::seg++rest):=by
   have:=xv184 (pre++[y]) y z (seg++rest)
   rw [show (pre++[y]).length=k + 1 by simp [hk']] at this
   simpa using this
  have g3:(pre++y::(y::(seg++rest)))[k + 1]?=some y:=by
   have:(pre++[y]++y::(seg++rest))[(pre++[y]).length]?=some y:=by simp
   rw [show (pre++[y]).length=k + 1 by simp [hk']] at this
   simpa using this
  have c1:chk (decide (0 ≤ (k:Int)∧(k:Int) < ((n:Nat):Int)))=some ():=chk_d ⟨by omega,by omega⟩
  have c2:chk (decide (0 ≤ ((k + 1:Nat):Int)∧((k + 1:Nat):Int) < ((n:Nat):Int)))=some ():=chk_d ⟨by omega,by omega⟩
  have hpz:SrtP (pre++z::seg):=by simpa using hs
  rw [yv700]
  simp only [fn111_l1,fn111_b1,e1,c1,c2,xv1,Int.toNat_natCast,g1,g2,s1,Option.bind_some]
  rw [if_pos (by rw [decide_eq_true_eq];omega)]
  by_cases hz:z.Id > y.Id
  ·rw [if_pos (decide_eq_true hz)]
   simp only [g3,s2,Option.bind_some]
   obtain ⟨l',h1,h2,h3⟩:=xv301 n hn k pre y (z::seg) rest hk' (by simp only [List.length_append,List.length_cons];omega) hpz (fun s h=>by
    rcases List.mem_cons.1 h with rfl|h
    ·exact hz
    ·exact hy s h)
   refine ⟨l',h1,h2,h3.trans ?_⟩
   rw [List.append_assoc]
   exact List.Perm.append_left _ (List.Perm.swap _ _ _)
  ·rw [if_neg (by simpa using hz)]
   refine ⟨(pre++[z])++y::seg,by simp,?_,List.Perm.refl _⟩
   have hzy:z.Id ≤ y.Id:=UInt8.not_lt.1 hz
   rw [List.append_assoc]
   obtain ⟨p1,p2,p3⟩:=List.pairwise_append.1 hpz
   obtain ⟨p4,p5⟩:=List.pairwise_cons.1 p2
   refine List.pairwise_append.2 ⟨p1,List.pairwise_cons.2 ⟨fun b hb=>?_,List.pairwise_cons.2 ⟨fun s h=>UInt8.le_of_lt (hy s h),p5⟩⟩,fun a ha b hb=>?_⟩
   ·rcases List.mem_cons.1 hb with rfl|hb
    ·exact hzy
    ·exact p4 b hb
   ·have haz:=p3 a ha z (by simp)
    rcases List.mem_cons.1 hb with rfl|hb
    ·exact haz
    ·rcases List.mem_cons.1 hb with rfl|hb
     ·exact UInt8.le_trans haz hzy
     ·exact p3 a ha b (by simp [hb])
theorem xv227 (n:Nat) (hn:n ≤ 100000):∀ (rest srt:List fn163),SrtP srt->(srt++rest).length=n ->
 ∃ l',iter (fn111_l0 n) ((srt.length:Int),srt++rest)=some l'∧SrtP l'∧l'.Perm (srt++rest)
 | [],srt,hs,hl=>by
  refine ⟨srt,?_,hs,by simp⟩
  rw [yv700]
  simp only [fn111_l0,fn111_b0]
  rw [if_neg (by simp at hl;simp [hl])]
  simp
 | y::rest,srt,hs,hl=>by
  obtain ⟨l',h1,h2,h3⟩:=xv301 n hn srt.length srt y [] rest rfl (by simpa using hl) (by simpa using hs) (by simp)
  have hlen:=h3.length_eq
  simp only [List.length_append,List.length_cons,List.length_nil] at hlen hl
  obtain ⟨l'',k1,k2,k3⟩:=xv227 n hn rest l' h2 (by simp only [List.length_append];omega)
  refine ⟨l'',?_,k2,k3.trans ?_⟩
  ·rw [yv700]
   simp only [fn111_l0,fn111_b0]
   rw [if_pos (by rw [decide_eq_true_eq];omega)]
   simp only [List.nil_append] at h1
   rw [h1]
   simp only [Option.bind_some]
   rw [xv3 (by omega),show srt.length + 1=l'.length by omega]
   exact k1
  ·have:=List.Perm.append_right rest h3
   simpa using this
theorem xv176 (o:Option (List fn163)) (h:(L o).length ≤ 1000):∃ l',fn161 o=some (some l')∧SrtP l'∧l'.Perm (L o):=by
 by_cases he:L o=[]
 ·refine ⟨[],?_,List.Pairwise.nil,by rw [he]⟩
  have e0:(L o).isEmpty=true:=by rw [he];rfl
  simp only [fn161,e0,cond_true,fn110]
  have ha:appO 40 (some []) o=some (some ([]:List fn163)):=by
   simp only [appO,he]
   rw [if_pos (by simp [room])]
   rfl
  rw [ha]
  simp only [Option.bind_some]
  rw [yv700]
  simp only [fn110_l0,fn110_b0]
  rw [if_neg (by simp)]
  rfl
 ·have e0:(L o).isEmpty=false:=by
   cases hl:L o with
   | nil=>exact absurd hl he
   | cons a l=>rfl
  simp only [fn161,e0,cond_false,fn111]
  rw [chk_d ⟨by unfold room;omega,by unfold room;omega⟩]
  obtain ⟨y,l,hl⟩:=List.exists_cons_of_ne_nil he
  obtain ⟨l',h1,h2,h3⟩:=xv227 (L o).length (by omega) l [y] (by simp) (by rw [hl];simp)
  have hlen:=h3.length_eq
  simp only [Option.bind_some]
  have h1':iter (fn111_l0 (L o).length) (1,L o)=some l':=by
   have:=h1
   rw [show ([y]:List fn163)++l=L o from hl.symm] at this
   exact this
  rw [h1']
  have hl2:l'.length=(L o).length:=by rw [hl];simpa using hlen
  simp only [Option.bind_some]
  rw [chk_d ⟨by rw [hl];simp,by omega⟩]
  refine ⟨l',?_,h2,by rw [hl];simpa using h3⟩
  simp only [Option.bind_some]
  rw [← hl2,List.take_length]
end Go.Rv
namespace Go.Rv
open Go.Lib
def SG:List (List UInt8):=[[97],[98],[97,98],[195,164],[226,130,172],[240,159,153,130],[49],[99]]
inductive Sg:Nat->List UInt8->Prop
 | nil:Sg 0 []
 | cons (w t:List UInt8) (n:Nat) (hw:w ∈ SG) (h:Sg n t):Sg (n + 1) (w++t)
theorem Sg.snoc:∀ {n:Nat} {l:List UInt8},Sg n l->∀ w,w ∈ SG->Sg (n + 1) (l++w)
 | _,_,.nil,w,hw=>by have:=Sg.cons w [] 0 hw .nil;simpa using this
 | _,_,.cons v t n hv h,w,hw=>by rw [List.append_assoc];exact .cons v (t++w) _ hv (h.snoc w hw)
theorem Sg.app {n:Nat} {l:List UInt8} (h:Sg n l):∀ {m:Nat} {r:List UInt8},Sg m r->Sg (n + m) (l++r):=by
 induction h with
 | nil=>intro m r k;simpa using k
 | cons v t n hv h ih=>intro m r k;rw [List.append_assoc,show n + 1 + m=n + m + 1 by omega];exact .cons v _ _ hv (ih k)
theorem xv278 (w:List UInt8) (h:w ∈ SG):1 ≤ w.length∧w.length ≤ 4:=by
 simp only [SG,List.mem_cons,List.mem_nil_iff,or_false] at h
 rcases h with rfl|rfl|rfl|rfl|rfl|rfl|rfl|rfl<;>decide
theorem Sg.len:∀ {n:Nat} {l:List UInt8},Sg n l->l.length ≤ 4 * n
 | _,_,.nil=>by simp
 | _,_,.cons w t n hw h=>by have:=h.len;have:=xv278 w hw;simp;omega
theorem xv38 (c:UInt8) (t:List UInt8) (k:Nat) (h:sgn (c::t)=k + 1):good (c::t)=good (t.drop k):=by
 rw [xv55,h,if_neg (by omega)];rfl
theorem xv31 (c:UInt8) (t:List UInt8) (h:128 ≤ c.toNat) (h2:c.toNat < 192):good (c::t)=false:=by
 have:sgn (c::t)=0:=by simp only [sgn];rw [if_neg (by omega),if_neg (by omega),if_neg (by omega),if_pos h]
 rw [xv55,if_pos this]
theorem xv10 (c:UInt8) (t:List UInt8) (h:c.toNat < 128) (h0:c.toNat ≠ 0):good (c::t)=good t:=by
 have:sgn (c::t)=0 + 1:=by
  simp only [sgn];rw [if_neg (by omega),if_neg (by omega),if_neg (by omega),if_neg (by omega),restS,if_neg (by omega)]
 rw [xv38 c t 0 this];rfl
theorem xv68 (w t:List UInt8) (hw:w ∈ SG):good (w++t)=good t:=by
 simp only [SG,List.mem_cons,List.mem_nil_iff,or_false] at hw
 rcases hw with rfl|rfl|rfl|rfl|rfl|rfl|rfl|rfl
 ·exact xv10 _ _ (by decide) (by decide)
 ·exact xv10 _ _ (by decide) (by decide)
 ·exact (xv10 _ _ (by decide) (by decide)).trans (xv10 _ _ (by decide) (by decide))
 ·exact xv38 _ _ 1 (by simp [sgn,contN,restN])
 ·exact xv38 _ _ 2 (by simp [sgn,contN,restN])
 ·exact xv38 _ _ 3 (by simp [sgn,contN,restN])
 ·exact xv10 _ _ (by decide) (by decide)
 ·exact xv10 _ _ (by decide) (by decide)
theorem Sg.good:∀ {n:Nat} {l:List UInt8},Sg n l->Rv.good l=true
 | _,_,.nil=>xv18
 | _,_,.cons w t n hw h=>by rw [xv68 w t hw];exact h.good
def lead (c:UInt8):Bool:=decide (c.toNat < 128) || decide (192 ≤ c.toNat)
theorem xv252 (w t:List UInt8) (hw:w ∈ SG) (ht:Rv.good t=true) (k:Nat) (hk:k < w.length) (c:UInt8) (hc:w[k]?=some c):Rv.good (w.take k)=lead c∧Rv.good (w.drop k++t)=lead c:=by
 have hg:=xv68 w t hw
 have two:∀ (a b:UInt8),Rv.good ((a::b::t))=Rv.good (a::b::t):=fun _ _=>rfl
 have hk4:=(xv278 w hw).2
 simp only [SG,List.mem_cons,List.mem_nil_iff,or_false] at hw
 have g0:=xv18
 have ga:Rv.good [97]=true:=by kernel_rfl
 have b1:Rv.good [195]=false:=by kernel_rfl
 have b2:Rv.good [226]=false:=by kernel_rfl
 have b3:Rv.good [226,130]=false:=by kernel_rfl
 have b4:Rv.good [240]=false:=by kernel_rfl
 have b5:Rv.good [240,159]=false:=by kernel_rfl
 have b6:Rv.good [240,159,153]=false:=by kernel_rfl
 have gb:Rv.good (98::t)=true:=(xv10 98 t (by decide) (by decide)).trans ht
 match k,hk4 with
 | 0,_ =>
  rw [List.take_zero,List.drop_zero,hg,ht,g0]
  rcases hw with rfl|rfl|rfl|rfl|rfl|rfl|rfl|rfl<;>(cases hc;exact ⟨rfl,rfl⟩)
 | 1,_ =>
  rcases hw with rfl|rfl|rfl|rfl|rfl|rfl|rfl|rfl
  ·simp at hk
  ·simp at hk
  ·cases hc;exact ⟨ga,gb⟩
  ·cases hc;exact ⟨b1,xv31 _ _ (by decide) (by decide)⟩
  ·cases hc;exact ⟨b2,xv31 _ _ (by decide) (by decide)⟩
  ·cases hc;exact ⟨b4,xv31 _ _ (by decide) (by decide)⟩
  ·simp at hk
  ·simp at hk
 | 2,_ =>
  rcases hw with rfl|rfl|rfl|rfl|rfl|rfl|rfl|rfl
  ·simp at hk
  ·simp at hk
  ·simp at hk
  ·simp at hk
  ·cases hc;exact ⟨b3,xv31 _ _ (by decide) (by decide)⟩
  ·cases hc;exact ⟨b5,xv31 _ _ (by decide) (by decide)⟩
  ·simp at hk
  ·simp at hk
 | 3,_ =>
  rcases hw with rfl|rfl|rfl|rfl|rfl|rfl|rfl|rfl
  ·simp at hk
  ·simp at hk
  ·simp at hk
  ·simp at hk
  ·simp at hk
  ·cases hc;exact ⟨b6,xv31 _ _ (by decide) (by decide)⟩
  ·simp at hk
  ·simp at hk
 | k + 4,h4=>omega
end Go.Rv
namespace Go.Rv
open Go.Lib
theorem Sg.cut {n:Nat} {l:List UInt8} (h:Sg n l):∀ (k:Nat) (c:UInt8),l[k]?=some c->Rv.good (l.take k)=lead c∧Rv.good (l.drop k)=lead c:=by
 induction h with
 | nil=>intro k c hc;simp at hc
 | cons w t n hw h ih =>
  intro k c hc
  by_cases hk:k < w.length
  ·rw [List.getElem?_append_left hk] at hc
   have:=xv252 w t hw h.good k hk c hc
   rw [List.take_append_of_le_length (by omega),List.drop_append_of_le_length (by omega)]
   exact this
  ·rw [List.getElem?_append_right (by omega)] at hc
   have:=ih (k - w.length) c hc
   rw [List.take_append,List.drop_append,List.take_of_length_le (by omega),List.drop_of_length_le (by omega),List.nil_append,xv68 w _ hw]
   exact this
def fixL:Option (List (List UInt8)):=some [[97],[98],[97,98],[195,164],[226,130,172],[240,159,153,130],[49],[99]]
theorem xv256 (s:List UInt8):∀ (f i n:Nat) (o:List UInt8),f + i=8->n ≤ i->Sg n o->∃ m q,m ≤ 8∧Sg m q∧iter (fn176_l0 s fixL) (o,(i:Int))=some q:=by
 intro f
 induction f with
 | zero =>
  intro i n o hi hn ho
  refine ⟨n,o,by omega,ho,?_⟩
  rw [yv700]
  simp only [fn176_l0,fn176_b0]
  by_cases h:i < s.length
  ·rw [if_pos (by simp;omega),if_neg (by simp;omega)]
  ·rw [if_neg (by simp;omega)]
 | succ f ih =>
  intro i n o hi hn ho
  by_cases h:i < s.length
  ·have hc:=s[i].toNat_lt
   have hm:s[i].toNat % 8 < fixL.get!.length:=by
    show _ < 8;omega
   have hw:fixL.get![s[i].toNat % 8] ∈ SG:=by
    have:=List.getElem_mem hm
    exact this
   obtain ⟨m,q,h1,h2,h3⟩:=ih (i + 1) (n + 1) (o++fixL.get![s[i].toNat % 8]) (by omega) (by omega) (ho.snoc _ hw)
   refine ⟨m,q,h1,h2,?_⟩
   rw [yv700]
   simp only [fn176_l0,fn176_b0]
   have e0:w64 (s[i].toNat:Int)=(s[i].toNat:Int):=xv0 (by omega) (by omega)
   have e8:((L fixL).length:Int)=8:=rfl
   have e1:((s[i].toNat:Int)).tmod 8=((s[i].toNat % 8:Nat):Int):=by
    rw [Int.tmod_eq_emod_of_nonneg (by omega)];simp
   have e2:ix (L fixL) ((s[i].toNat % 8:Nat):Int)=some (fixL.get![s[i].toNat % 8]):=by
    rw [xv1];exact List.getElem?_eq_getElem hm
   have ew:w64 ((i:Int) + 1)=((i + 1:Nat):Int):=by rw [xv0 (by omega) (by omega)];simp
   have hl:=ho.len
   have hl2:=(xv278 _ hw).2
   rw [if_pos (by simp;omega),if_pos (by simp;omega),xv1,List.getElem?_eq_getElem h,Option.bind_some,e8,e0,e1]
   rw [show chk (decide ((8:Int) ≠ 0))=some () from rfl,Option.bind_some,e2,Option.bind_some]
   simp only [catS]
   rw [if_pos (by omega),Option.bind_some,ew]
   exact h3
  ·refine ⟨n,o,by omega,ho,?_⟩
   rw [yv700]
   simp only [fn176_l0,fn176_b0]
   rw [if_neg (by simp;omega)]
theorem xv134 (s:List UInt8):∃ m q,m ≤ 8∧Sg m q∧fn176 s=some q:=by
 obtain ⟨m,q,h1,h2,h3⟩:=xv256 s 8 0 0 [] rfl (Nat.le_refl _) .nil
 refine ⟨m,q,h1,h2,?_⟩
 simp only [fn176]
 rw [show (((0:Nat):Int))=0 from rfl] at h3
 have:iter (fn176_l0 s (some [[97],[98],[97,98],[195,164],[226,130,172],[240,159,153,130],[49],[99]])) ([],0)=some q:=h3
 rw [this];rfl
end Go.Rv
namespace Go.Rv
theorem xv105 (s:List UInt8) (k:Nat) (hk:k ≤ 1000):slc s 0 (imin (s.length:Int) (k:Int))=some (s.take k):=by
 have e:imin (s.length:Int) (k:Int)=((min s.length k:Nat):Int):=by
  simp only [imin];split<;>omega
 have:=xv56 (l:=s) (a:=0) (b:=min s.length k) (by omega) (by omega)
 rw [show ((0:Nat):Int)=0 from rfl,List.drop_zero] at this
 rw [e,this]
 rcases Nat.le_total s.length k with h|h
 ·rw [Nat.min_eq_left h,List.take_length,List.take_of_length_le h]
 ·rw [Nat.min_eq_right h]
end Go.Rv
namespace Go.Rv
open Go.Lib
theorem xv49 (b:List UInt8):∀ (k n:Nat) (t:List UInt8),k ≤ t.length->contN k n (t++b)=contN k n t
 | 0,n,t,h=>rfl
 | k + 1,n,[],h=>by simp at h
 | k + 1,n,c::t,h=>by
  simp only [List.cons_append,contN]
  split
  ·exact xv49 b k _ t (by simpa using h)
  ·rfl
theorem xv319 (l b:List UInt8) (h:sgn l ≠ 0):sgn (l++b)=sgn l:=by
 cases l with
 | nil=>exact absurd rfl h
 | cons c t =>
  simp only [List.cons_append,sgn,List.length_append] at h ⊢
  by_cases h1:240 ≤ c.toNat
  ·rw [if_pos h1] at h ⊢
   rw [if_pos h1]
   by_cases h2:248 ≤ c.toNat∨t.length < 3
   ·rw [if_pos h2] at h;exact absurd rfl h
   ·rw [if_neg h2,if_neg (by omega),xv49 _ _ _ _ (by omega)]
  ·rw [if_neg h1] at h ⊢
   rw [if_neg h1]
   by_cases h3:224 ≤ c.toNat
   ·rw [if_pos h3] at h ⊢
    rw [if_pos h3]
    by_cases h2:t.length < 2
    ·rw [if_pos h2] at h;exact absurd rfl h
    ·rw [if_neg h2,if_neg (by omega),xv49 _ _ _ _ (by omega)]
   ·rw [if_neg h3] at h ⊢
    rw [if_neg h3]
    by_cases h4:192 ≤ c.toNat
    ·rw [if_pos h4] at h ⊢
     rw [if_pos h4]
     by_cases h2:t.length < 1
     ·rw [if_pos h2] at h;exact absurd rfl h
     ·rw [if_neg h2,if_neg (by omega),xv49 _ _ _ _ (by omega)]
    ·rw [if_neg h4,if_neg h4]
theorem xv154 (b:List UInt8):∀ (n:Nat) (a:List UInt8),a.length ≤ n->good a=true->good (a++b)=good b
 | _,[],_,_=>rfl
 | 0,c::t,h,_=>by simp at h
 | n + 1,c::t,h,hg=>by
  rw [xv55] at hg
  by_cases hz:sgn (c::t)=0
  ·rw [if_pos hz] at hg;cases hg
  ·rw [if_neg hz] at hg
   have hle:=xv320 (c::t)
   have e:=xv319 (c::t) b hz
   rw [List.cons_append] at e ⊢
   rw [xv55,e,if_neg hz,← List.cons_append,List.drop_append_of_le_length hle]
   exact xv154 b n _ (by simp at h ⊢;omega) hg
theorem xv93 {a b:List UInt8} (ha:good a=true) (hb:good b=true):good (a++b)=true:=by rw [xv154 b a.length a (Nat.le_refl _) ha,hb]
theorem xv334 (a b:List UInt8):lv (a++47::b)=lv a++lv b:=by
 induction a with
 | nil=>simp [lv]
 | cons c a ih =>
  simp only [List.cons_append,lv,ih]
  split
  ·rfl
  ·cases h:lv a with
   | nil=>exact absurd h (lv_ne a)
   | cons x l=>rfl
theorem xv302 {a:List UInt8} (h:47 ∉ a):lv a=[a]:=by
 induction a with
 | nil=>rfl
 | cons c a ih =>
  simp only [List.mem_cons,not_or] at h
  simp only [lv,if_neg (Ne.symm h.1),ih h.2]
def js:List (List UInt8)->List UInt8
 | []=>[]
 | [x]=>x
 | x::l=>x++47::js l
theorem xv63 (x:List UInt8) {l:List (List UInt8)} (h:l ≠ []):js (x::l)=x++47::js l:=by
 cases l with
 | nil=>exact absurd rfl h
 | cons y l=>rfl
theorem lv_js:∀ {l:List (List UInt8)},l ≠ []->(∀ x ∈ l,47 ∉ x)->lv (js l)=l
 | [],h,_=>absurd rfl h
 | [x],_,h=>xv302 (h x (by simp))
 | x::y::l,_,h=>by
  rw [xv63 x (by simp),xv334,xv302 (h x (by simp)),lv_js (by simp) (fun z hz=>h z (by simp [hz]))]
  rfl
theorem xv298 (t:List UInt8):good (47::t)=good t:=xv10 47 t (by decide) (by decide)
theorem xv221:∀ {l:List (List UInt8)},(∀ x ∈ l,good x=true)->good (js l)=true
 | [],_=>xv18
 | [x],h=>h x (by simp)
 | x::y::l,h=>by
  rw [xv63 x (by simp)]
  exact xv93 (h x (by simp)) (by rw [xv298];exact xv221 (fun z hz=>h z (by simp [hz])))
theorem xv305:∀ {l:List (List UInt8)} {b:UInt8},b ∈ js l->b=47∨∃ x ∈ l,b ∈ x
 | [],b,h=>by simp [js] at h
 | [x],b,h=>.inr ⟨x,by simp,h⟩
 | x::y::l,b,h=>by
  rw [xv63 x (by simp)] at h
  rcases List.mem_append.1 h with h|h
  ·exact .inr ⟨x,by simp,h⟩
  ·rcases List.mem_cons.1 h with h|h
   ·exact .inl h
   ·rcases xv305 h with h|⟨z,h1,h2⟩
    ·exact .inl h
    ·exact .inr ⟨z,by simp [h1],h2⟩
end Go.Rv
namespace Go.Rv
open Go.Lib
def TG:List (List UInt8):=[[97],[98],[47],[99],[100],[47],[195,164],[101]]
inductive Tw:Nat->List UInt8->Prop
 | nil:Tw 0 []
 | cons (w t:List UInt8) (n:Nat) (hw:w ∈ TG) (h:Tw n t):Tw (n + 1) (w++t)
theorem Tw.snoc:∀ {n:Nat} {l:List UInt8},Tw n l->∀ w,w ∈ TG->Tw (n + 1) (l++w)
 | _,_,.nil,w,hw=>by have:=Tw.cons w [] 0 hw .nil;simpa using this
 | _,_,.cons v t n hv h,w,hw=>by rw [List.append_assoc];exact .cons v _ _ hv (h.snoc w hw)
theorem xv324 (w:List UInt8) (h:w ∈ TG):1 ≤ w.length∧w.length ≤ 2:=by
 simp only [TG,List.mem_cons,List.mem_nil_iff,or_false] at h
 rcases h with rfl|rfl|rfl|rfl|rfl|rfl|rfl|rfl<;>decide
theorem Tw.len:∀ {n:Nat} {l:List UInt8},Tw n l->l.length ≤ 2 * n
 | _,_,.nil=>by simp
 | _,_,.cons w t n hw h=>by have:=h.len;have:=xv324 w hw;simp;omega
theorem xv219 (w t:List UInt8) (hw:w ∈ TG):good (w++t)=good t:=by
 simp only [TG,List.mem_cons,List.mem_nil_iff,or_false] at hw
 rcases hw with rfl|rfl|rfl|rfl|rfl|rfl|rfl|rfl
 ·exact xv10 _ _ (by decide) (by decide)
 ·exact xv10 _ _ (by decide) (by decide)
 ·exact xv10 _ _ (by decide) (by decide)
 ·exact xv10 _ _ (by decide) (by decide)
 ·exact xv10 _ _ (by decide) (by decide)
 ·exact xv10 _ _ (by decide) (by decide)
 ·exact xv38 _ _ 1 (by simp [sgn,contN,restN])
 ·exact xv10 _ _ (by decide) (by decide)
theorem Tw.good:∀ {n:Nat} {l:List UInt8},Tw n l->Rv.good l=true
 | _,_,.nil=>xv18
 | _,_,.cons w t n hw h=>by rw [xv219 w t hw];exact h.good
theorem xv282 (w:List UInt8) (h:w ∈ TG):∀ b ∈ w,b ≠ 36∧b ≠ 43∧b ≠ 35∧b ≠ 115:=by
 simp only [TG,List.mem_cons,List.mem_nil_iff,or_false] at h
 rcases h with rfl|rfl|rfl|rfl|rfl|rfl|rfl|rfl<;>decide
theorem Tw.bytes:∀ {n:Nat} {l:List UInt8},Tw n l->∀ b ∈ l,b ≠ 36∧b ≠ 43∧b ≠ 35∧b ≠ 115
 | _,_,.nil=>by simp
 | _,_,.cons w t n hw h=>by
  intro b hb
  rcases List.mem_append.1 hb with hb|hb
  ·exact xv282 w hw b hb
  ·exact h.bytes b hb
theorem xv303 (t:List UInt8):∀ w:List UInt8,47 ∉ w->lv (w++t)=lvp w t
 | [],_=>(lvp_0 t).symm
 | c::w,h=>by
  simp only [List.mem_cons,not_or] at h
  simp only [List.cons_append,lv,if_neg (Ne.symm h.1),xv303 t w h.2,lvp]
  cases lv t<;>rfl
theorem Tw.levels:∀ {n:Nat} {l:List UInt8},Tw n l->∀ x ∈ lv l,Rv.good x=true
 | _,_,.nil=>by intro x h;simp [lv] at h;rw [h];exact xv18
 | _,_,.cons w t n hw h=>by
  intro x hx
  by_cases h47:w=[47]
  ·subst h47
   simp only [List.cons_append,List.nil_append,lv,if_true] at hx
   rcases List.mem_cons.1 hx with rfl|hx
   ·exact xv18
   ·exact h.levels x hx
  ·have hn:47 ∉ w:=by
    simp only [TG,List.mem_cons,List.mem_nil_iff,or_false] at hw
    rcases hw with rfl|rfl|rfl|rfl|rfl|rfl|rfl|rfl<;>first|decide|exact absurd rfl h47
   rw [xv303 t w hn,lvp] at hx
   cases hl:lv t with
   | nil=>exact absurd hl (lv_ne t)
   | cons y l =>
    rw [hl] at hx
    simp only at hx
    rcases List.mem_cons.1 hx with rfl|hx
    ·rw [xv219 w y hw];exact h.levels y (by rw [hl];simp)
    ·exact h.levels x (by rw [hl];simp [hx])
theorem xv214 (s:List UInt8):∀ (f i n:Nat) (o:List UInt8),f + i=8->n ≤ i->Tw n o->∃ m q,m ≤ 8∧Tw m q∧iter (fn177_l0 s (some TG)) (o,(i:Int))=some q:=by
 intro f
 induction f with
 | zero =>
  intro i n o hi hn ho
  refine ⟨n,o,by omega,ho,?_⟩
  rw [yv700]
  simp only [fn177_l0,fn177_b0]
  by_cases h:i < s.length
  ·rw [if_pos (by simp;omega),if_neg (by simp;omega)]
  ·rw [if_neg (by simp;omega)]
 | succ f ih =>
  intro i n o hi hn ho
  by_cases h:i < s.length
  ·have hc:=s[i].toNat_lt
   have hm:s[i].toNat % 8 < TG.length:=by
    show _ < 8;omega
   have hw:TG[s[i].toNat % 8] ∈ TG:=List.getElem_mem hm
   obtain ⟨m,q,h1,h2,h3⟩:=ih (i + 1) (n + 1) (o++TG[s[i].toNat % 8]) (by omega) (by omega) (ho.snoc _ hw)
   refine ⟨m,q,h1,h2,?_⟩
   rw [yv700]
   simp only [fn177_l0,fn177_b0]
   have e0:w64 (s[i].toNat:Int)=(s[i].toNat:Int):=xv0 (by omega) (by omega)
   have e8:((L (some TG)).length:Int)=8:=rfl
   have e1:((s[i].toNat:Int)).tmod 8=((s[i].toNat % 8:Nat):Int):=by
    rw [Int.tmod_eq_emod_of_nonneg (by omega)];simp
   have e2:ix (L (some TG)) ((s[i].toNat % 8:Nat):Int)=some (TG[s[i].toNat % 8]):=by
    rw [xv1];exact List.getElem?_eq_getElem hm
   have ew:w64 ((i:Int) + 1)=((i + 1:Nat):Int):=by rw [xv0 (by omega) (by omega)];simp
   have hl:=ho.len
   have hl2:=(xv324 _ hw).2
   rw [if_pos (by simp;omega),if_pos (by simp;omega),xv1,List.getElem?_eq_getElem h,Option.bind_some,e8,e0,e1]
   rw [show chk (decide ((8:Int) ≠ 0))=some () from rfl,Option.bind_some,e2,Option.bind_some]
   simp only [catS]
   rw [if_pos (by omega),Option.bind_some,ew]
   exact h3
  ·refine ⟨n,o,by omega,ho,?_⟩
   rw [yv700]
   simp only [fn177_l0,fn177_b0]
   rw [if_neg (by simp;omega)]
theorem xv189 (s:List UInt8):∃ m q,m ≤ 8∧Tw m q∧q ≠ []∧fn177 s=some q:=by
 obtain ⟨m,q,h1,h2,h3⟩:=xv214 s 8 0 0 [] rfl (Nat.le_refl _) .nil
 rw [show (((0:Nat):Int))=0 from rfl] at h3
 have h4:iter (fn177_l0 s (some [[97],[98],[47],[99],[100],[47],[195,164],[101]])) ([],0)=some q:=h3
 simp only [fn177,h4,Option.bind_some]
 by_cases h:q=[]
 ·exact ⟨1,[97],by omega,.cons [97] [] 0 (by decide) .nil,by simp,by simp [h]⟩
 ·exact ⟨m,q,h1,h2,h,by simp [h]⟩
theorem xv94 {x:List UInt8} (h:∀ b ∈ x,b ≠ 43∧b ≠ 35):wild x=false:=by
 simp only [wild,Bool.or_eq_false_iff]
 constructor
 ·rw [Bool.eq_false_iff];intro e;exact (h 43 (by simpa using e)).1 rfl
 ·rw [Bool.eq_false_iff];intro e;exact (h 35 (by simpa using e)).2 rfl
theorem xv159:∀ {l:List (List UInt8)},(∀ x ∈ l,x=[43]∨wild x=false)->xv40 l=true
 | [],_=>rfl
 | x::l,h=>by
  simp only [xv40,xv159 (fun y hy=>h y (List.mem_cons_of_mem _ hy)),Bool.and_true,okL]
  rcases h x (by simp) with rfl|e
  ·simp
  ·simp [e]
theorem xv79:∀ {l:List (List UInt8)},(∀ x ∈ l,x=[43]∨wild x=false)->xv40 (l++[[35]])=true
 | [],_=>by simp [xv40,okL]
 | x::l,h=>by
  simp only [List.cons_append,xv40,xv79 (fun y hy=>h y (List.mem_cons_of_mem _ hy)),Bool.and_true,okL]
  rcases h x (by simp) with rfl|e
  ·simp
  ·simp [e]
theorem xv251 (g b:List UInt8) (h:47 ∉ g):cutO (g++47::b)=some (g,b):=by
 induction g with
 | nil=>simp [cutO]
 | cons c g ih =>
  simp only [List.mem_cons,not_or] at h
  simp only [List.cons_append,cutO,if_neg (Ne.symm h.1),ih h.2,Option.map_some]
end Go.Rv
