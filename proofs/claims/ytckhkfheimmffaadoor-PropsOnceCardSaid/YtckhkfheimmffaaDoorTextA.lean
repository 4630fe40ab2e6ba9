/- Plain laws. -/
import Derived.Test.YtckhkfheimmffaaDoorWalk
import Derived.Lib.ValidLaws
import Derived.Lib.TrimUEq
import Derived.Lib.RuneCount
import Derived.Lib.SplitLaws
import Derived.Lib.IndexAny
set_option linter.unusedSimpArgs false
set_option linter.unusedVariables false
set_option maxRecDepth 100000
namespace Go.Rv
open Go.Lib
theorem xv2 {x:Int} (h0:-9223372036854775808 ≤ x) (h1:x ≤ 9223372036854775807):w64 x=x:=by
 show IntKind.i64.wrap x=x
 rw [IntKind.wrap_i64];omega
theorem xv0 {α:Type} {l:List α} {i:Nat}:ix l (i:Int)=l[i]?:=by simp [ix]
def contN:Nat->Nat->List UInt8->Option Nat
 | 0,n,_=>some n
 | k + 1,n,c::l=>if c.toNat / 64=2 then contN k (64 * n + c.toNat - 128) l else none
 | _ + 1,_,[]=>none
def contR:Option Nat->Unit ⊕ Int
 | none=>.inl ()
 | some m=>.inr (m:Int)
theorem xv120 (s:List UInt8) (p z:Nat) (hl:s.length ≤ 70000) (hz:z ≤ 4) (hp:p + z ≤ s.length):∀ (k i n:Nat),i + k=z->n < 1000 ^ (i + 1) ->
 iter (fn93_l1 s (p:Int) (z:Int)) ((n:Int),(i:Int))=some (contR (contN k n (s.drop (p + i)))):=by
 intro k
 induction k with
 | zero =>
  intro i n hi hn
  rw [yv757]
  simp only [fn93_l1,fn93_b1]
  rw [if_neg (by simp;omega)]
  rfl
 | succ k ih =>
  intro i n hi hn
  rw [yv757]
  simp only [fn93_l1,fn93_b1]
  have hlt:p + i < s.length:=by omega
  have e1:w64 ((p:Int) + (i:Int))=((p + i:Nat):Int):=by rw [xv2 (by omega) (by omega)];simp
  rw [if_pos (by simp;omega),e1,xv0,List.getElem?_eq_getElem hlt,Option.bind_some,List.drop_eq_getElem_cons hlt]
  have hc:=s[p + i].toNat_lt
  have ih:=ih (i + 1) (64 * n + s[p + i].toNat - 128) (by omega) (by
   rw [Nat.pow_succ]
   have:1000 ≤ 1000 ^ (i + 1):=Nat.le_self_pow (by omega) 1000
   generalize 1000 ^ (i + 1)=M at hn this ⊢
   generalize s[p + i]=c at hc ⊢
   omega)
  rw [show p + (i + 1)=p + i + 1 by omega] at ih
  generalize s[p + i]=c at hc ih ⊢
  have h64:(1000:Nat) ^ (i + 1) ≤ 1000 ^ 5:=Nat.pow_le_pow_right (by decide) (by omega)
  have e64:(1000:Nat) ^ 5=1000000000000000:=by decide
  have ec:w64 (c.toNat:Int)=(c.toNat:Int):=xv2 (by omega) (by omega)
  rw [ec]
  simp only [contN]
  by_cases h1:c.toNat < 128
  ·rw [if_pos (by simp;omega),if_neg (by omega)];rfl
  ·rw [if_neg (by simp;omega)]
   by_cases h2:192 ≤ c.toNat
   ·rw [if_pos (by simp;omega),if_neg (by omega)];rfl
   ·rw [if_neg (by simp;omega),if_pos (by omega)]
    have e2:w64 (w64 (w64 (64 * (n:Int)) + (c.toNat:Int)) - 128)=((64 * n + c.toNat - 128:Nat):Int):=by
     rw [xv2 (x:=64 * (n:Int)) (by omega) (by omega),xv2 (x:=64 * (n:Int) + (c.toNat:Int)) (by omega) (by omega),xv2 (by omega) (by omega)];omega
    have e3:w64 ((i:Int) + 1)=((i + 1:Nat):Int):=by rw [xv2 (by omega) (by omega)];simp
    rw [e2,e3]
    exact ih
def restN (z least:Nat):Option Nat->Nat
 | some n=>if n < least∨n > 1114111∨(n ≥ 55296∧n ≤ 57343) then 0 else z
 | none=>0
theorem xv77 (s:List UInt8) (p c z n least:Nat) (hl:s.length ≤ 70000) (hpl:p ≤ 70000) (hz1:1 ≤ z) (hz:z ≤ 4) (hn:n < 1000000) (hleast:least ≤ 100000) :
 ∃ v,fn93_c0 s (p:Int) (c:Int) (z:Int) (n:Int) (least:Int) (fun a b=>some (a,b))=some (v,((if 248 ≤ c∨s.length < p + z then 0 else restN z least (contN (z - 1) n (s.drop (p + 1))):Nat):Int)):=by
 simp only [fn93_c0]
 by_cases h1:248 ≤ c
 ·rw [if_pos (by simp;omega),if_pos (Or.inl h1)];exact ⟨0,rfl⟩
 ·rw [if_neg (by simp;omega)]
  by_cases hp:s.length < p + z
  ·have e1:w64 ((p:Int) + (z:Int))=((p + z:Nat):Int):=by rw [xv2 (by omega) (by omega)];simp
   rw [e1,if_pos (by simp;omega),if_pos (Or.inr hp)];exact ⟨0,rfl⟩
  ·have e1:w64 ((p:Int) + (z:Int))=((p + z:Nat):Int):=by rw [xv2 (by omega) (by omega)];simp
   have hit:=xv120 s p z hl hz (by omega) (z - 1) 1 n (by omega) (by simpa using hn)
   rw [show (((1:Nat):Int))=1 from rfl] at hit
   rw [e1,if_neg (by simp;omega),if_neg (by omega),hit,Option.bind_some]
   cases contN (z - 1) n (s.drop (p + 1)) with
   | none=>exact ⟨0,rfl⟩
   | some m =>
    simp only [contR,restN]
    by_cases q1:m < least
    ·rw [if_pos (by simp;omega)];exact ⟨0,by simp [q1]⟩
    ·rw [if_neg (by simp;omega)]
     by_cases q2:m > 1114111
     ·rw [if_pos (by simp;omega)];exact ⟨0,by simp [q1,q2]⟩
     ·rw [if_neg (by simp;omega)]
      by_cases q3:m ≥ 55296
      ·rw [if_pos (by simp;omega)]
       by_cases q4:m ≤ 57343
       ·rw [if_pos (by simp;omega)];exact ⟨0,by simp [q1,q2,q3,q4]⟩
       ·rw [if_neg (by simp;omega)];exact ⟨m,by simp [q1,q2,q3,q4]⟩
      ·rw [if_neg (by simp;omega)];exact ⟨m,by simp [q1,q2,q3]⟩
end Go.Rv
namespace Go.Rv
open Go.Lib
def sgn (l:List UInt8):Nat:=match l with
 | []=>0
 | c::t =>
  if 240 ≤ c.toNat then (if 248 ≤ c.toNat∨t.length < 3 then 0 else restN 4 65536 (contN 3 (c.toNat - 240) t))
  else if 224 ≤ c.toNat then (if t.length < 2 then 0 else restN 3 2048 (contN 2 (c.toNat - 224) t))
  else if 192 ≤ c.toNat then (if t.length < 1 then 0 else restN 2 128 (contN 1 (c.toNat - 192) t))
  else if 128 ≤ c.toNat then 0 else restN 1 1 (some c.toNat)
theorem xv208 (s:List UInt8) (p:Nat) (hl:s.length ≤ 70000) (hp:p < s.length):∃ v,fn93 s (p:Int)=some (v,(sgn (s.drop p):Int)):=by
 simp only [fn93]
 rw [xv0,List.getElem?_eq_getElem hp,Option.bind_some,List.drop_eq_getElem_cons hp]
 have hlen:(s.drop (p + 1)).length=s.length - (p + 1):=List.length_drop
 simp only [sgn,hlen]
 generalize s[p]=c
 have hc:=c.toNat_lt
 have ec:w64 (c.toNat:Int)=(c.toNat:Int):=xv2 (by omega) (by omega)
 rw [ec]
 by_cases h1:240 ≤ c.toNat
 ·rw [if_pos (by simp;omega),if_pos h1,show w64 ((c.toNat:Int) - 240)=((c.toNat - 240:Nat):Int) by rw [xv2 (by omega) (by omega)];omega]
  obtain ⟨v,hv⟩:=xv77 s p c.toNat 4 (c.toNat - 240) 65536 hl (by omega) (by omega) (by omega) (by omega) (by omega)
  refine ⟨v,hv.trans ?_⟩
  congr 3
  exact ite_congr (propext (by omega)) (fun _=>rfl) (fun _=>rfl)
 ·rw [if_neg (by simp;omega),if_neg h1]
  by_cases h2:224 ≤ c.toNat
  ·rw [if_pos (by simp;omega),if_pos h2,show w64 ((c.toNat:Int) - 224)=((c.toNat - 224:Nat):Int) by rw [xv2 (by omega) (by omega)];omega]
   obtain ⟨v,hv⟩:=xv77 s p c.toNat 3 (c.toNat - 224) 2048 hl (by omega) (by omega) (by omega) (by omega) (by omega)
   refine ⟨v,hv.trans ?_⟩
   congr 3
   exact ite_congr (propext (by omega)) (fun _=>rfl) (fun _=>rfl)
  ·rw [if_neg (by simp;omega),if_neg h2]
   by_cases h3:192 ≤ c.toNat
   ·rw [if_pos (by simp;omega),if_pos h3,show w64 ((c.toNat:Int) - 192)=((c.toNat - 192:Nat):Int) by rw [xv2 (by omega) (by omega)];omega]
    obtain ⟨v,hv⟩:=xv77 s p c.toNat 2 (c.toNat - 192) 128 hl (by omega) (by omega) (by omega) (by omega) (by omega)
    refine ⟨v,hv.trans ?_⟩
    congr 3
    exact ite_congr (propext (by omega)) (fun _=>rfl) (fun _=>rfl)
   ·rw [if_neg (by simp;omega),if_neg h3]
    by_cases h4:128 ≤ c.toNat
    ·rw [if_pos (by simp;omega),if_pos h4];exact ⟨0,rfl⟩
    ·rw [if_neg (by simp;omega),if_neg h4]
     obtain ⟨v,hv⟩:=xv77 s p c.toNat 1 c.toNat 1 hl (by omega) (by omega) (by omega) (by omega) (by omega)
     refine ⟨v,hv.trans ?_⟩
     rw [if_neg (by omega)];rfl
theorem restS (z least n:Nat):restN z least (some n)=if n < least∨n > 1114111∨(n ≥ 55296∧n ≤ 57343) then 0 else z:=rfl
theorem xv12 (z least:Nat):restN z least none=0:=rfl
theorem xv7 (z least:Nat) (o:Option Nat) (p:Prop) [Decidable p]:restN z least (if p then o else none)=if p then restN z least o else 0:=by split<;>rfl
theorem xv111 (c:UInt8) (t:List UInt8):sgn (c::t)=if decodeL (c::t)=(65533,1)∨c.toNat=0 then 0 else (decodeL (c::t)).2:=by
 rw [decodeL_N]
 have hc:=c.toNat_lt
 by_cases h128:c.toNat < 128
 ·have e:sgn (c::t)=restN 1 1 (some c.toNat):=by simp only [sgn];rw [if_neg (by omega),if_neg (by omega),if_neg (by omega),if_neg (by omega)]
  rw [e]
  simp only [decodeN,List.getD_cons_zero,h128,if_true,restN]
  by_cases h0:c.toNat=0
  ·rw [if_pos (by omega),if_pos (Or.inr h0)]
  ·rw [if_neg (by omega),if_neg (by intro h;rcases h with h|h;(simp only [Prod.mk.injEq] at h;omega);omega)]
 ·have key:∀ (n b1 b2 b3:Nat),(decodeN n c.toNat b1 b2 b3=(65533,1)∨(1 < (decodeN n c.toNat b1 b2 b3).2)):=by
   intro n b1 b2 b3
   simp only [decodeN,h128,if_false]
   repeat' split
   all_goals first|(left;rfl)|(right;exact Nat.lt_of_sub_pos Nat.one_pos)|(right;show 1 < _;simp)
  generalize hD:decodeN (c::t).length ((c::t).getD 0 0).toNat ((c::t).getD 1 0).toNat ((c::t).getD 2 0).toNat ((c::t).getD 3 0).toNat=D
  have hD2:(if D=(65533,1)∨c.toNat=0 then 0 else D.2)=if D.2=1 then 0 else D.2:=by
   rcases key (c::t).length ((c::t).getD 1 0).toNat ((c::t).getD 2 0).toNat ((c::t).getD 3 0).toNat with k|k
   ·rw [← hD]
    simp only [List.getD_cons_zero] at k ⊢
    rw [k];simp
   ·simp only [List.getD_cons_zero] at hD
    rw [hD] at k
    rw [if_neg (by intro h;rcases h with h|h;(rw [h] at k;simp at k);omega),if_neg (by omega)]
  rw [hD2,← hD]
  clear hD hD2 key D
  match t with
  | [] =>
   simp only [sgn,decodeN,List.getD_cons_zero,List.length_cons,List.length_nil,h128,if_false]
   repeat' split
   all_goals omega
  | [d] =>
   have hd:=d.toNat_lt
   have n1:1 < [c,d].length:=by simp
   have n2:¬ 2 < [c,d].length:=by simp
   have n3:¬ 3 < [c,d].length:=by simp
   have l3:[d].length < 3:=by simp
   have l2:[d].length < 2:=by simp
   have l1:¬ [d].length < 1:=by simp
   generalize [c,d].length=n at n1 n2 n3
   simp only [sgn,decodeN,List.getD_cons_zero,List.getD_cons_succ,h128,if_false,n1,n2,n3,l1,l2,l3,true_and,false_and,and_false,or_true,if_true]
   by_cases g4:240 ≤ c.toNat
   ·have x1:¬ c.toNat / 32=6:=by omega
    have x2:¬ c.toNat / 16=14:=by omega
    simp only [g4,if_true,x1,x2,false_and,if_false,contN,xv7,restS,xv12]
    repeat' split
    all_goals omega
   ·by_cases g3:224 ≤ c.toNat
    ·have x1:¬ c.toNat / 32=6:=by omega
     have x2:c.toNat / 16=14:=by omega
     have x3:¬ c.toNat / 8=30:=by omega
     simp only [g4,g3,if_true,x1,x2,x3,true_and,false_and,if_false,contN,xv7,restS,xv12]
     repeat' split
     all_goals omega
    ·by_cases g2:192 ≤ c.toNat
     ·have x1:c.toNat / 32=6:=by omega
      have x2:¬ c.toNat / 16=14:=by omega
      have x3:¬ c.toNat / 8=30:=by omega
      simp only [g4,g3,g2,if_true,x1,x2,x3,true_and,false_and,if_false,contN,xv7,restS,xv12]
      repeat' split
      all_goals omega
     ·have x1:¬ c.toNat / 32=6:=by omega
      have x2:¬ c.toNat / 16=14:=by omega
      have x3:¬ c.toNat / 8=30:=by omega
      have g1:128 ≤ c.toNat:=by omega
      simp only [g4,g3,g2,g1,if_true,x1,x2,x3,false_and,if_false]
  | [d,e] =>
   have hd:=d.toNat_lt
   have he:=e.toNat_lt
   have n1:1 < [c,d,e].length:=by simp
   have n2:2 < [c,d,e].length:=by simp
   have n3:¬ 3 < [c,d,e].length:=by simp
   have l3:[d,e].length < 3:=by simp
   have l2:¬ [d,e].length < 2:=by simp
   have l1:¬ [d,e].length < 1:=by simp
   generalize [c,d,e].length=n at n1 n2 n3
   simp only [sgn,decodeN,List.getD_cons_zero,List.getD_cons_succ,h128,if_false,n1,n2,n3,l1,l2,l3,true_and,false_and,and_false,or_true,if_true]
   by_cases g4:240 ≤ c.toNat
   ·have x1:¬ c.toNat / 32=6:=by omega
    have x2:¬ c.toNat / 16=14:=by omega
    simp only [g4,if_true,x1,x2,false_and,if_false,contN,xv7,restS,xv12]
    repeat' split
    all_goals omega
   ·by_cases g3:224 ≤ c.toNat
    ·have x1:¬ c.toNat / 32=6:=by omega
     have x2:c.toNat / 16=14:=by omega
     have x3:¬ c.toNat / 8=30:=by omega
     simp only [g4,g3,if_true,x1,x2,x3,true_and,false_and,if_false,contN,xv7,restS,xv12]
     repeat' split
     all_goals omega
    ·by_cases g2:192 ≤ c.toNat
     ·have x1:c.toNat / 32=6:=by omega
      have x2:¬ c.toNat / 16=14:=by omega
      have x3:¬ c.toNat / 8=30:=by omega
      simp only [g4,g3,g2,if_true,x1,x2,x3,true_and,false_and,if_false,contN,xv7,restS,xv12]
      repeat' split
      all_goals omega
     ·have x1:¬ c.toNat / 32=6:=by omega
      have x2:¬ c.toNat / 16=14:=by omega
      have x3:¬ c.toNat / 8=30:=by omega
      have g1:128 ≤ c.toNat:=by omega
      simp only [g4,g3,g2,g1,if_true,x1,x2,x3,false_and,if_false]
  | d::e::f::r =>
   have hd:=d.toNat_lt
   have he:=e.toNat_lt
   have hf:=f.toNat_lt
   have n1:1 < (c::d::e::f::r).length:=by simp
   have n2:2 < (c::d::e::f::r).length:=by simp
   have n3:3 < (c::d::e::f::r).length:=by simp
   have l3:¬ (d::e::f::r).length < 3:=by simp
   have l2:¬ (d::e::f::r).length < 2:=by simp
   have l1:¬ (d::e::f::r).length < 1:=by simp
   generalize (c::d::e::f::r).length=n at n1 n2 n3
   simp only [sgn,decodeN,List.getD_cons_zero,List.getD_cons_succ,h128,if_false,n1,n2,n3,l1,l2,l3,true_and,or_false]
   by_cases g4:240 ≤ c.toNat
   ·have x1:¬ c.toNat / 32=6:=by omega
    have x2:¬ c.toNat / 16=14:=by omega
    simp only [g4,if_true,x1,x2,false_and,if_false,contN,xv7,restS,xv12]
    repeat' split
    all_goals omega
   ·by_cases g3:224 ≤ c.toNat
    ·have x1:¬ c.toNat / 32=6:=by omega
     have x2:c.toNat / 16=14:=by omega
     have x3:¬ c.toNat / 8=30:=by omega
     simp only [g4,g3,if_true,x1,x2,x3,true_and,false_and,if_false,contN,xv7,restS,xv12]
     repeat' split
     all_goals omega
    ·by_cases g2:192 ≤ c.toNat
     ·have x1:c.toNat / 32=6:=by omega
      have x2:¬ c.toNat / 16=14:=by omega
      have x3:¬ c.toNat / 8=30:=by omega
      simp only [g4,g3,g2,if_true,x1,x2,x3,true_and,false_and,if_false,contN,xv7,restS,xv12]
      repeat' split
      all_goals omega
     ·have x1:¬ c.toNat / 32=6:=by omega
      have x2:¬ c.toNat / 16=14:=by omega
      have x3:¬ c.toNat / 8=30:=by omega
      have g1:128 ≤ c.toNat:=by omega
      simp only [g4,g3,g2,g1,if_true,x1,x2,x3,false_and,if_false]
end Go.Rv
namespace Go.Rv
open Go.Lib
theorem xv93:∀ (l:List UInt8) (c:UInt8),-1 ≤ indexByte l c∧(0 ≤ indexByte l c ↔ c ∈ l)
 | [],c=>by simp [indexByte]
 | b::l,c=>by
  obtain ⟨h1,h2⟩:=xv93 l c
  simp only [indexByte]
  by_cases hb:b=c
  ·subst hb;simp
  ·have e1:(b == c)=false:=by simpa using hb
   have e2:c ∈ b::l ↔ c ∈ l:=by
    rw [List.mem_cons]
    exact ⟨fun h=>h.resolve_left (fun e=>hb e.symm),Or.inr⟩
   rw [e1,e2,← h2]
   simp only [Bool.false_eq_true,if_false]
   by_cases hi:indexByte l c=-1
   ·rw [hi];simp
   ·have e3:(indexByte l c == -1)=false:=by simpa using hi
    rw [e3]
    simp only [Bool.false_eq_true,if_false]
    omega
def good (l:List UInt8):Bool:=validD l && !decide ((0:UInt8) ∈ l)
theorem xv139 (s:List UInt8):fn57 s=some (decide (s.length ≤ 65535) && good s):=by
 simp only [fn57,good]
 by_cases h:s.length ≤ 65535
 ·rw [if_pos (by simpa using by omega)]
  simp only [fn19]
  rw [if_pos (by omega),Option.bind_some]
  cases hv:validD s with
  | false=>simp
  | true =>
   rw [if_pos rfl]
   simp only [fn20,Option.bind_some]
   have:=(xv93 s 0).2
   by_cases h0:(0:UInt8) ∈ s
   ·simp [h0,this.2 h0,h]
   ·simp [h0,mt this.1 h0,h]
 ·rw [if_neg (by simpa using by omega)]
  simp [h]
theorem xv64:∀ (k n:Nat) (l:List UInt8) (m:Nat),contN k n l=some m->∀ b ∈ l.take k,b.toNat / 64=2
 | 0,n,l,m,h=>by simp
 | k + 1,n,[],m,h=>by simp [contN] at h
 | k + 1,n,c::l,m,h=>by
  simp only [contN] at h
  split at h
  ·rename_i hc
   intro b hb
   rw [List.take_succ_cons,List.mem_cons] at hb
   rcases hb with rfl|hb
   ·exact hc
   ·exact xv64 k _ l m h b hb
  ·cases h
theorem xv104 {z least:Nat} {o:Option Nat} (h:0 < restN z least o):∃ m,o=some m∧restN z least o=z∧least ≤ m:=by
 cases o with
 | none=>simp [restN] at h
 | some m =>
  simp only [restN] at h ⊢
  split at h
  ·omega
  ·exact ⟨m,rfl,by rw [if_neg (by assumption)],by omega⟩
theorem xv185 (l:List UInt8) (h:0 < sgn l):∀ b ∈ l.take (sgn l),b ≠ 0:=by
 cases l with
 | nil=>simp [sgn] at h
 | cons c t =>
  have key:∀ k n least z,z=k + 1->0 < restN z least (contN k n t)->c.toNat ≠ 0->∀ b ∈ (c::t).take (restN z least (contN k n t)),b ≠ 0:=by
   intro k n least z hz hp hc b hb
   obtain ⟨m,h1,h2,_⟩:=xv104 hp
   rw [h2,hz,List.take_succ_cons,List.mem_cons] at hb
   rcases hb with rfl|hb
   ·intro e;rw [e] at hc;exact hc rfl
   ·have:=xv64 k n t m h1 b hb
    intro e;rw [e] at this;simp at this
  simp only [sgn] at h ⊢
  by_cases h1:240 ≤ c.toNat
  ·rw [if_pos h1] at h ⊢
   by_cases q:248 ≤ c.toNat∨t.length < 3
   ·rw [if_pos q] at h;omega
   ·rw [if_neg q] at h ⊢
    exact key 3 _ _ 4 rfl h (by omega)
  ·rw [if_neg h1] at h ⊢
   by_cases h2:224 ≤ c.toNat
   ·rw [if_pos h2] at h ⊢
    by_cases q:t.length < 2
    ·rw [if_pos q] at h;omega
    ·rw [if_neg q] at h ⊢
     exact key 2 _ _ 3 rfl h (by omega)
   ·rw [if_neg h2] at h ⊢
    by_cases h3:192 ≤ c.toNat
    ·rw [if_pos h3] at h ⊢
     by_cases q:t.length < 1
     ·rw [if_pos q] at h;omega
     ·rw [if_neg q] at h ⊢
      exact key 1 _ _ 2 rfl h (by omega)
    ·rw [if_neg h3] at h ⊢
     by_cases h4:128 ≤ c.toNat
     ·rw [if_pos h4] at h;omega
     ·rw [if_neg h4] at h ⊢
      obtain ⟨m,e1,e2,e3⟩:=xv104 h
      have:=key 0 c.toNat 1 1 rfl h (by cases e1;omega)
      exact this
theorem xv73 (z least:Nat) (o:Option Nat):restN z least o ≤ z:=by
 cases o with
 | none=>simp [restN]
 | some m=>simp only [restN];split<;>omega
theorem xv227 (l:List UInt8):sgn l ≤ l.length:=by
 cases l with
 | nil=>simp [sgn]
 | cons c t =>
  have a4:=xv73 4 65536 (contN 3 (c.toNat - 240) t)
  have a3:=xv73 3 2048 (contN 2 (c.toNat - 224) t)
  have a2:=xv73 2 128 (contN 1 (c.toNat - 192) t)
  have a1:=xv73 1 1 (some c.toNat)
  simp only [sgn,List.length_cons]
  repeat' split
  all_goals omega
theorem xv59 (c:UInt8) (t:List UInt8):good (c::t)=if sgn (c::t)=0 then false else good ((c::t).drop (sgn (c::t))):=by
 have hs:=xv111 c t
 have hv:=validD_step (c::t) (by simp)
 by_cases h0:sgn (c::t)=0
 ·rw [if_pos h0]
  rw [h0] at hs
  by_cases hd:decodeL (c::t)=(65533,1)
  ·simp [good,hv,hd]
  ·by_cases hc:c.toNat=0
   ·have:c=0:=by rw [← UInt8.toNat_inj];exact hc
    simp [good,this]
   ·rw [if_neg (by simp [hd,hc])] at hs
    have:=decodeL_width (c::t)
    omega
 ·rw [if_neg h0]
  have ht:=xv185 (c::t) (by omega)
  by_cases hd:decodeL (c::t)=(65533,1)∨c.toNat=0
  ·rw [if_pos hd] at hs;exact absurd hs h0
  ·rw [if_neg hd] at hs
   have h1:¬ ((decodeL (c::t)).1=65533∧(decodeL (c::t)).2=1):=fun e=>hd (Or.inl (Prod.ext e.1 e.2))
   rw [if_neg h1,← hs] at hv
   simp only [good,hv]
   congr 2
   have:(0:UInt8) ∈ (c::t) ↔ (0:UInt8) ∈ (c::t).drop (sgn (c::t)):=by
    constructor
    ·intro h
     rw [← List.take_append_drop (sgn (c::t)) (c::t),List.mem_append] at h
     rcases h with h|h
     ·exact absurd rfl (ht 0 h)
     ·exact h
    ·exact List.mem_of_mem_drop
   exact decide_eq_decide.2 this
theorem xv108 (s:List UInt8) (hl:s.length ≤ 65535):∀ (f p n:Nat),s.length - p ≤ f->p ≤ s.length->n ≤ p->iter (fn79_l0 s) ((n:Int),(p:Int))=some (if good (s.drop p) then .inr ((n + runeCountFrom ⟨s.toArray⟩ f p:Nat):Int) else .inl ()):=by
 intro f
 induction f with
 | zero =>
  intro p n hf hp hn
  rw [yv757]
  simp only [fn79_l0,fn79_b0]
  rw [if_neg (by simp;omega),List.drop_of_length_le (by omega)]
  rfl
 | succ f ih =>
  intro p n hf hp hn
  rw [yv757]
  simp only [fn79_l0,fn79_b0]
  by_cases hlt:p < s.length
  ·rw [if_pos (by simp;omega)]
   obtain ⟨v,hv⟩:=xv208 s p (by omega) hlt
   rw [hv,Option.bind_some]
   have hg:=xv59 s[p] (s.drop (p + 1))
   have hs:=xv111 s[p] (s.drop (p + 1))
   rw [← List.drop_eq_getElem_cons hlt] at hg hs
   have hdl:decodeL (s.drop p)=Utf8.decode ⟨s.toArray⟩ p:=by
    have:=decodeL_drop ⟨s.toArray⟩ p
    simpa using this
   have hw:=decodeL_width (s.drop p)
   simp only
   by_cases h0:sgn (s.drop p)=0
   ·rw [if_pos (by simp [h0]),hg,if_pos h0];rfl
   ·rw [if_neg (by simp;omega),hg,if_neg h0]
    have e2:sgn (s.drop p)=(Utf8.decode ⟨s.toArray⟩ p).2:=by
     rw [hs] at h0 ⊢
     split at h0
     ·exact absurd rfl h0
     ·rename_i hh
      rw [if_neg hh,hdl]
    have hle:p + sgn (s.drop p) ≤ s.length:=by
     have h3:(s.drop p).length=s.length - p:=List.length_drop
     have h4:=xv227 (s.drop p)
     omega
    have e3:w64 ((n:Int) + 1)=((n + 1:Nat):Int):=by rw [xv2 (by omega) (by omega)];simp
    have e4:w64 ((p:Int) + (sgn (s.drop p):Int))=((p + sgn (s.drop p):Nat):Int):=by rw [xv2 (by omega) (by omega)];simp
    rw [e3,e4]
    refine (ih (p + sgn (s.drop p)) (n + 1) (by omega) hle (by omega)).trans ?_
    rw [List.drop_drop]
    have e5:runeCountFrom ⟨s.toArray⟩ (f + 1) p=1 + runeCountFrom ⟨s.toArray⟩ f (p + sgn (s.drop p)):=by
     rw [runeCountFrom,if_pos (by show p < (List.toArray s).size;simpa using hlt),e2]
    rw [e5,← Nat.add_assoc]
  ·rw [if_neg (by simp;omega),List.drop_of_length_le (by omega),runeCountFrom_end _ _ _ (by show ¬ p < (List.toArray s).size;simpa using hlt)]
   rfl
theorem xv134 (s:List UInt8) (hl:s.length ≤ 65535):fn79 s=some (if good s then (runeCount ⟨s.toArray⟩:Int) else -1):=by
 simp only [fn79]
 have h:=xv108 s hl s.length 0 0 (by omega) (by omega) (by omega)
 rw [show (((0:Nat):Int))=0 from rfl] at h
 rw [if_neg (by simp;omega),h,List.drop_zero,Nat.zero_add]
 have e:runeCountFrom ⟨s.toArray⟩ s.length 0=runeCount ⟨s.toArray⟩:=by
  simp only [runeCount]
  rw [show ByteArray.size ⟨s.toArray⟩=s.length from List.size_toArray]
 rw [e]
 cases good s<;>rfl
theorem xv72 (s:List UInt8) (hl:s.length ≤ 65535):fn80 s=some (good s):=by
 simp only [fn80]
 rw [xv134 s hl]
 cases good s<;>simp
end Go.Rv
namespace Go.Rv
theorem xv46 {α:Type} {l:List α} {a b:Nat} (h1:a ≤ b) (h2:b ≤ l.length):slc l (a:Int) (b:Int)=some ((l.take b).drop a):=by
 simp only [slc,Int.toNat_natCast]
 rw [if_pos ⟨by omega,by omega,by omega⟩]
theorem xv19 (s:List UInt8) (h:s.length ≤ 13000):fn57 s=some (good s):=by
 rw [xv139,decide_eq_true (by omega),Bool.true_and]
theorem xv6 {n:Nat} (h:n ≤ 9223372036854775807):w64 (n:Int)=n:=xv2 (by omega) (by omega)
theorem u8_toNat' {x:Int}:(u8 x).toNat=(x % 256).toNat:=by
 have:=yv530 x;omega
theorem u16_toNat' {x:Int}:(u16 x).toNat=(x % 65536).toNat:=by
 simp only [u16,UInt16.toNat_ofNat']
 have h:=Int.emod_lt_of_pos x (show (0:Int) < 65536 by decide)
 omega
theorem u32_toNat' {x:Int}:(u32 x).toNat=(x % 4294967296).toNat:=by
 simp only [u32,UInt32.toNat_ofNat']
 have h:=Int.emod_lt_of_pos x (show (0:Int) < 4294967296 by decide)
 omega
theorem u64_toNat' {x:Int}:(u64 x).toNat=(x % 18446744073709551616).toNat:=by
 simp only [u64,UInt64.toNat_ofNat']
 have h:=Int.emod_lt_of_pos x (show (0:Int) < 18446744073709551616 by decide)
 omega
theorem xv5 {a:UInt32} {y:Nat} (hy:y ≤ 32):(yv645 a (y:Int)).toNat=a.toNat * 2 ^ y % 4294967296:=by
 simp only [yv645,u32_toNat',Int.toNat_natCast,Nat.min_eq_left hy]
 have:((a.toNat:Int) * 2 ^ y)=((a.toNat * 2 ^ y:Nat):Int):=by simp
 rw [this];omega
theorem xv36 {a:UInt32} {y:Nat} (hy:y ≤ 32):(yv518 a (y:Int)).toNat=a.toNat / 2 ^ y:=by
 simp only [yv518,u32_toNat',Int.toNat_natCast,Nat.min_eq_left hy]
 have:((a.toNat:Int) / 2 ^ y)=((a.toNat / 2 ^ y:Nat):Int):=by simp
 rw [this]
 have h:=a.toNat_lt
 have:a.toNat / 2 ^ y ≤ a.toNat:=Nat.div_le_self _ _
 generalize a.toNat / 2 ^ y=q at this ⊢
 omega
theorem xv35 {a:UInt16} {y:Nat} (hy:y ≤ 16):(yv644 a (y:Int)).toNat=a.toNat * 2 ^ y % 65536:=by
 simp only [yv644,u16_toNat',Int.toNat_natCast,Nat.min_eq_left hy]
 have:((a.toNat:Int) * 2 ^ y)=((a.toNat * 2 ^ y:Nat):Int):=by simp
 rw [this];omega
theorem xv84 {a:UInt16} {y:Nat} (hy:y ≤ 16):(yv517 a (y:Int)).toNat=a.toNat / 2 ^ y:=by
 simp only [yv517,u16_toNat',Int.toNat_natCast,Nat.min_eq_left hy]
 have:((a.toNat:Int) / 2 ^ y)=((a.toNat / 2 ^ y:Nat):Int):=by simp
 rw [this]
 have h:=a.toNat_lt
 have:a.toNat / 2 ^ y ≤ a.toNat:=Nat.div_le_self _ _
 generalize a.toNat / 2 ^ y=q at this ⊢
 omega
theorem low7 (c:UInt8):(c &&& ~~~(128:UInt8)).toNat=c.toNat % 128:=by
 have h:∀ n:Fin 256,((UInt8.ofNat n.val) &&& ~~~(128:UInt8)).toNat=n.val % 128:=by decide +kernel
 have:=h ⟨c.toNat,c.toNat_lt⟩
 simpa using this
theorem hi7 (c:UInt8):(c ||| (128:UInt8)).toNat=c.toNat % 128 + 128:=by
 have h:∀ n:Fin 256,((UInt8.ofNat n.val) ||| (128:UInt8)).toNat=n.val % 128 + 128:=by decide +kernel
 have:=h ⟨c.toNat,c.toNat_lt⟩
 simpa using this
theorem xv41 {a b k:Nat} (h:a < 2 ^ k):a ||| b * 2 ^ k=a + b * 2 ^ k:=by
 have:=Nat.two_pow_add_eq_or_of_lt h b
 rw [Nat.or_comm,Nat.mul_comm b,← this];omega
theorem ge8 {c:UInt8}:(c ≥ (128:UInt8)) ↔ 128 ≤ c.toNat:=by
 show (128:UInt8) ≤ c ↔ _
 rw [UInt8.le_iff_toNat_le];rfl
theorem eq8 {c d:UInt8}:c=d ↔ c.toNat=d.toNat:=⟨fun h=>by rw [h],fun h=>UInt8.toNat_inj.1 h⟩
theorem eq32 {c d:UInt32}:c=d ↔ c.toNat=d.toNat:=⟨fun h=>by rw [h],fun h=>UInt32.toNat_inj.1 h⟩
theorem eq16 {c d:UInt16}:c=d ↔ c.toNat=d.toNat:=⟨fun h=>by rw [h],fun h=>UInt16.toNat_inj.1 h⟩
theorem eq64 {c d:UInt64}:c=d ↔ c.toNat=d.toNat:=⟨fun h=>by rw [h],fun h=>UInt64.toNat_inj.1 h⟩
theorem chk_t {b:Bool} (h:b=true):chk b=some ():=by subst h;rfl
theorem chk_d {p:Prop} [Decidable p] (h:p):chk (decide p)=some ():=by simp [chk,h]
theorem xv60 {α:Type} {l:List α} {a:Nat} (h:a ≤ l.length):slc l (a:Int) (l.length:Int)=some (l.drop a):=by
 rw [xv46 h (Nat.le_refl _),List.take_length]
theorem xv26 {α:Type} {n:Nat} {x:List α} {y:Option (List α)} (h1:(x.length + (L y).length) * n ≤ room) (h2:x.length + (L y).length ≤ room):appO n (some x) y=some (some (x++L y)):=by
 simp only [appO]
 rw [if_pos ⟨h1,h2⟩]
theorem xv88 {α:Type} {n:Nat} {a:α} {l:List α} (h1:(l.length + 1) * n ≤ room) (h2:l.length + 1 ≤ room):appO n none (some (a::l))=some (some (a::l)):=by
 simp only [appO,L,Option.getD_some]
 rw [if_pos ⟨h1,h2⟩]
theorem xv21 {α:Type} {n:Nat} {x:Option (List α)} {a:α} {l:List α} (h1:((L x).length + l.length + 1) * n ≤ room) (h2:(L x).length + l.length + 1 ≤ room):appO n x (some (a::l))=some (some (L x++a::l)):=by
 cases x with
 | none=>simp only [L,Option.getD_none,List.length_nil,Nat.zero_add,List.nil_append] at h1 h2 ⊢;exact xv88 h1 h2
 | some x=>exact xv26 (y:=some (a::l)) (by simpa [L,Nat.add_assoc] using h1) (by simpa [L,Nat.add_assoc] using h2)
end Go.Rv
namespace Go.Rv
open Go.Lib
theorem xv50 {α:Type} (l:List α):L (some l)=l:=rfl
def wild (s:List UInt8):Bool:=s.contains 43 || s.contains 35
theorem xv159:∀ s:List UInt8,containsAny s [43,35]=wild s:=by
 intro s
 induction s with
 | nil=>rfl
 | cons b l ih =>
  have h:=indexAny_ge [43,35] l
  simp only [containsAny,wild] at ih ⊢
  rw [indexAny]
  by_cases hb:([43,35]:List UInt8).contains b=true
  ·rw [if_pos hb]
   simp at hb
   rcases hb with rfl|rfl<;>simp
  ·rw [if_neg hb]
   simp at hb
   have n1:¬ (43:UInt8)=b:=fun e=>hb.1 e.symm
   have n2:¬ (35:UInt8)=b:=fun e=>hb.2 e.symm
   simp only [List.contains_cons,beq_iff_eq,n1,n2,decide_false,Bool.false_or] at ih ⊢
   rw [show ((43:UInt8) == b)=false by simpa using n1,show ((35:UInt8) == b)=false by simpa using n2,Bool.false_or,Bool.false_or,← ih]
   by_cases hm:indexAny l [43,35]=-1
   ·rw [hm];rfl
   ·rw [if_neg (by simpa using hm)]
    exact decide_eq_decide.2 (by omega)
theorem xv188 (s:List UInt8) (hl:s.length ≤ 70000):fn64 s=some (wild s):=by
 simp only [fn64,fn17]
 rw [if_true,if_pos (by omega),Option.bind_some,xv159]
def lv:List UInt8->List (List UInt8)
 | []=>[[]]
 | b::t=>if b=47 then []::lv t else match lv t with
  | []=>[[b]]
  | x::l=>(b::x)::l
end Go.Rv
namespace Go.Rv
open Go.Lib
def nameB (s:List UInt8):Bool:=!decide (s=[]) && good s && !wild s
theorem xv187 (s:List UInt8) (hl:s.length ≤ 13000):fn65 s=some (nameB s):=by
 simp only [fn65,xv19 s hl,xv188 s (by omega),nameB,Option.bind_some]
 by_cases h:s=[]
 ·simp [h]
 ·cases good s<;>simp [h]
end Go.Rv
namespace Go.Rv
open Go.Lib
end Go.Rv
namespace Go.Rv
open Go.Lib
abbrev shP:List UInt8:=[36,115,104,97,114,101,47]
def cutO:List UInt8->Option (List UInt8 × List UInt8)
 | []=>none
 | b::t=>if b=47 then some ([],t) else (cutO t).map fun p=>(b::p.1,p.2)
def shr (s:List UInt8):Option (Option (List UInt8 × List UInt8)):=if s.take 7=shP then some (cutO (s.drop 7)) else none
end Go.Rv
namespace Go.Rv
open Go.Lib
theorem all8 {p:UInt8->Prop} (h:∀ n:Fin 256,p (UInt8.ofNat n.val)):∀ x,p x:=by
 intro x
 have:=h ⟨x.toNat,x.toNat_lt⟩
 simpa using this
theorem xv157:iter fn56_l0 ((some []),1)=some (some [1,2,3,4,5,6,7,8,9,10,11,14,15,16]):=by
 rw [yv802 17 (by kernel_rfl)]
 kernel_rfl
def typeT (id:UInt8):Int:=(fn92 id).getD 0
def xv39 (id:UInt8):Option (List Int):=(fn83 id).getD none
theorem xv56:∀ id,fn92 id=some (typeT id):=by
 refine all8 ?_
 have:∀ n:Fin 256,(fn92 (UInt8.ofNat n.val)).isSome=true:=by decide +kernel
 intro n
 obtain ⟨v,hv⟩:=Option.isSome_iff_exists.1 (this n)
 rw [typeT,hv];rfl
theorem xv135:∀ id,fn83 id=some (xv39 id):=by
 refine all8 ?_
 have:∀ n:Fin 256,(fn83 (UInt8.ofNat n.val)).isSome=true:=by decide +kernel
 intro n
 obtain ⟨v,hv⟩:=Option.isSome_iff_exists.1 (this n)
 rw [xv39,hv];rfl
theorem xv207:∀ id,fn56 id=some ⟨typeT id,xv39 id⟩:=by
 intro id
 simp only [fn56,xv157,Option.bind_some]
 revert id
 refine all8 ?_
 decide +kernel
theorem xv9 (id:UInt8):fn72 id=some (typeT id):=by simp only [fn72,xv207,Option.bind_some]
theorem xv66:∀ id,(L (xv39 id)).length ≤ 20:=by
 refine all8 ?_
 decide +kernel
theorem xv94 (o:Option (List Int)) (k:Int) (hl:(L o).length ≤ 70000):∀ (f i:Nat),(L o).length - i ≤ f->i ≤ (L o).length ->
 (((L o).drop i).contains k=true->∃ j:Nat,iter (fn16_l0 o k ((L o).length:Int)) (i:Int)=some (.inl (j:Int)))∧(((L o).drop i).contains k=false->iter (fn16_l0 o k ((L o).length:Int)) (i:Int)=some (.inr ())):=by
 intro f
 induction f with
 | zero =>
  intro i h1 h2
  rw [yv757]
  simp only [fn16_l0,fn16_b0]
  rw [if_neg (by simp;omega),show (L o).drop i=[] from List.drop_eq_nil_of_le (by omega)]
  exact ⟨fun h=>(by cases h),fun _=>rfl⟩
 | succ f ih =>
  intro i h1 h2
  rw [yv757]
  simp only [fn16_l0,fn16_b0]
  by_cases hlt:i < (L o).length
  ·have e:w64 ((i:Int) + 1)=((i + 1:Nat):Int):=by rw [xv2 (by omega) (by omega)];simp
   rw [if_pos (by simp;omega),xv0,List.getElem?_eq_getElem hlt,Option.bind_some,List.drop_eq_getElem_cons hlt,List.contains_cons]
   by_cases hc:k=(L o)[i]
   ·rw [if_pos (by simpa using hc)]
    refine ⟨fun _=>⟨i,rfl⟩,fun h=>?_⟩
    rw [show (k == (L o)[i])=true by simpa using hc] at h
    cases h
   ·rw [if_neg (by simpa using hc),show (k == (L o)[i])=false by simpa using hc,Bool.false_or,e]
    exact ih (i + 1) (by omega) hlt
  ·rw [if_neg (by simp;omega),show (L o).drop i=[] from List.drop_eq_nil_of_le (by omega)]
   exact ⟨fun h=>(by cases h),fun _=>rfl⟩
theorem xv52 (o:Option (List Int)) (k:Int) (hl:(L o).length ≤ 70000):fn14 o k=some ((L o).contains k):=by
 simp only [fn14,fn16]
 have:=xv94 o k hl (L o).length 0 (by omega) (by omega)
 rw [show ((0:Nat):Int)=0 from rfl,List.drop_zero] at this
 cases hc:(L o).contains k with
 | true =>
  obtain ⟨j,hj⟩:=this.1 hc
  rw [hj]
  show some (decide ((j:Int) ≥ 0))=some true
  rw [decide_eq_true (by omega)]
 | false=>rw [this.2 hc];rfl
def forB (id:UInt8) (k:Int):Bool:=(L (xv39 id)).contains k
theorem xv147 (id:UInt8) (k:Int):fn90 id k=some (forB id k):=by
 have:=xv66 id
 simp only [fn90,xv207,Option.bind_some,xv52 _ k (show (L (xv39 id)).length ≤ 70000 by omega),forB]
theorem xv165 (o:Option (List Int)) (k:Int) (hl:(L o).length ≤ 70000):∀ (f i:Nat),(L o).length - i ≤ f->i ≤ (L o).length ->
 iter (fn114_l0 k o) (i:Int)=some (if ((L o).drop i).contains k then .inl () else .inr ()):=by
 intro f
 induction f with
 | zero =>
  intro i h1 h2
  rw [yv757]
  simp only [fn114_l0,fn114_b0]
  rw [if_neg (by simp;omega),show (L o).drop i=[] from List.drop_eq_nil_of_le (by omega)]
  rfl
 | succ f ih =>
  intro i h1 h2
  rw [yv757]
  simp only [fn114_l0,fn114_b0]
  by_cases hlt:i < (L o).length
  ·have e:w64 ((i:Int) + 1)=((i + 1:Nat):Int):=by rw [xv2 (by omega) (by omega)];simp
   rw [if_pos (by simp;omega),xv0,List.getElem?_eq_getElem hlt,Option.bind_some,List.drop_eq_getElem_cons hlt,List.contains_cons]
   by_cases hc:(L o)[i]=k
   ·rw [if_pos (by simpa using hc),show (k == (L o)[i])=true by simpa using hc.symm]
    rfl
   ·rw [if_neg (by simpa using hc),show (k == (L o)[i])=false by simpa using fun e=>hc e.symm,Bool.false_or,e]
    exact ih (i + 1) (by omega) hlt
  ·rw [if_neg (by simp;omega),show (L o).drop i=[] from List.drop_eq_nil_of_le (by omega)]
   rfl
theorem xv105 (id:UInt8) (k:Int):fn114 id k=some (forB id k):=by
 have h:=xv66 id
 simp only [fn114,xv135,Option.bind_some,forB]
 have:=xv165 (xv39 id) k (by omega) (L (xv39 id)).length 0 (by omega) (by omega)
 rw [show ((0:Nat):Int)=0 from rfl,List.drop_zero] at this
 rw [this]
 cases (L (xv39 id)).contains k<;>rfl
def xv31 (id:UInt8) (k:Int):Bool:=forB id k && (decide (id=38) || (decide (id=11) && decide (k=3)))
theorem xv129 (id:UInt8) (k:Int):fn67 id k=some (xv31 id k):=by
 simp only [fn67,xv147,Option.bind_some,xv31]
 cases forB id k<;>cases decide (id=38)<;>cases decide (id=11)<;>simp
theorem xv136 (id:UInt8) (k:Int):fn84 id k=some (xv31 id k):=by
 simp only [fn84,xv105,Option.bind_some,xv31]
 cases forB id k<;>cases decide (id=38)<;>cases decide (id=11)<;>simp
def xv8 (id:UInt8) (n:UInt32) (a b:List UInt8):Bool :=
 if typeT id=1 then decide (n < 256) && (decide (a=[]) && decide (b=[]))
 else if typeT id=2 then decide (n < 65536) && (decide (a=[]) && decide (b=[]))
 else if typeT id=3 then decide (a=[]) && decide (b=[])
 else if typeT id=4 then decide (n < 268435456) && (decide (a=[]) && decide (b=[]))
 else if typeT id=5 then decide (n=0) && good a && decide (b=[])
 else if typeT id=6 then decide (n=0) && decide (b=[])
 else if typeT id=7 then decide (n=0) && good a && good b
 else false
theorem le32 (n:UInt32):decide (n ≤ (268435455:UInt32))=decide (n < (268435456:UInt32)):=by
 rw [Bool.eq_iff_iff]
 simp only [decide_eq_true_eq,UInt32.le_iff_toNat_le,UInt32.lt_iff_toNat_lt]
 show n.toNat ≤ 268435455 ↔ n.toNat < 268435456
 omega
theorem xv28 (p:fn86) (ha:p.A.length ≤ 13000) (hb:p.B.length ≤ 13000):fn58 p=some (xv8 p.Id p.N p.A p.B):=by
 have hla:decide ((p.A.length:Int) ≤ 65535)=true:=decide_eq_true (by omega)
 simp only [fn58,fn58_c0,xv9,Option.bind_some,xv19 _ ha,xv19 _ hb,xv8,le32,hla]
 generalize typeT p.Id=t
 by_cases h1:t=1<;>by_cases h2:t=2<;>by_cases h3:t=3<;>by_cases h4:t=4<;>by_cases h5:t=5<;>by_cases h6:t=6<;>by_cases h7:t=7<;>(try (exfalso;omega)) <;>
  simp only [h1,h2,h3,h4,h5,h6,h7,decide_true,decide_false,if_true,if_false,Bool.false_eq_true] <;>
  cases decide (p.A=[])<;>cases decide (p.B=[])<;>cases decide (p.N=0)<;>cases decide (p.N < 256)<;>cases decide (p.N < 65536)<;>cases decide (p.N < 268435456)<;>cases good p.A<;>cases good p.B<;>simp
theorem xv75 (p:fn104) (ha:p.A.length ≤ 13000) (hb:p.B.length ≤ 13000):fn81 p=some (xv8 p.Id p.N p.A p.B):=by
 have hla:decide ((p.A.length:Int) ≤ 65535)=true:=decide_eq_true (by omega)
 simp only [fn81,fn81_c0,xv56,Option.bind_some,xv72 _ (show p.A.length ≤ 65535 by omega),xv72 _ (show p.B.length ≤ 65535 by omega),xv8,hla]
 generalize typeT p.Id=t
 by_cases h1:t=1<;>by_cases h2:t=2<;>by_cases h3:t=3<;>by_cases h4:t=4<;>by_cases h5:t=5<;>by_cases h6:t=6<;>by_cases h7:t=7<;>(try (exfalso;omega)) <;>
  simp only [h1,h2,h3,h4,h5,h6,h7,decide_true,decide_false,if_true,if_false,Bool.false_eq_true] <;>
  cases decide (p.A=[])<;>cases decide (p.B=[])<;>cases decide (p.N=0)<;>cases decide (p.N < 256)<;>cases decide (p.N < 65536)<;>cases decide (p.N < 268435456)<;>cases good p.A<;>cases good p.B<;>simp
end Go.Rv
namespace Go.Rv
open Go.Lib
def valB (id:UInt8) (n:UInt32) (a:List UInt8):Bool :=
 if typeT id=1 then decide (n < 2)
 else if decide (id=11) || decide (id=33) || decide (id=35) || decide (id=39) then !decide (n=0)
 else if id=8 then nameB a
 else true
def xv25 (id:UInt8) (n:UInt32) (a b:List UInt8):Bool:=xv8 id n a b && valB id n a
theorem le1 (n:UInt32):decide (n ≤ (1:UInt32))=decide (n < (2:UInt32)):=by
 rw [Bool.eq_iff_iff]
 simp only [decide_eq_true_eq,UInt32.le_iff_toNat_le,UInt32.lt_iff_toNat_lt]
 show n.toNat ≤ 1 ↔ n.toNat < 2
 omega
theorem xv132 (p:fn86) (ha:p.A.length ≤ 13000) (hb:p.B.length ≤ 13000):fn66 p=some (xv25 p.Id p.N p.A p.B):=by
 simp only [fn66,fn66_c0,xv28 p ha hb,xv9,Option.bind_some,le1,xv187 p.A ha,xv25,valB]
 cases xv8 p.Id p.N p.A p.B with
 | false=>simp
 | true =>
  simp only [Bool.not_true,Bool.false_eq_true,if_false,Bool.true_and]
  by_cases h1:typeT p.Id=1
  ·simp [h1]
  ·simp only [h1,decide_false,Bool.false_eq_true,if_false]
   by_cases a11:p.Id=11
   ·simp [a11]
   ·by_cases a33:p.Id=33
    ·simp [a33]
    ·by_cases a35:p.Id=35
     ·simp [a35]
     ·by_cases a39:p.Id=39
      ·simp [a39]
      ·by_cases a8:p.Id=8<;>simp [a11,a33,a35,a39,a8]
end Go.Rv
namespace Go.Rv
def runL {σ α β:Type} (g:σ->α->σ ⊕ β) (e:σ->β):σ->List α->β
 | s,[]=>e s
 | s,a::l=>match g s a with
  | .inl s'=>runL g e s' l
  | .inr b=>b
def stepL {Z σ β:Type} (mk:σ->Int->Z) (i:Nat):σ ⊕ β->Z ⊕ β
 | .inl s'=>.inl (mk s' ((i + 1:Nat):Int))
 | .inr b=>.inr b
theorem xv30 {Z σ β α:Type} (l:List α) (step:Z->Option (Z ⊕ β)) (mk:σ->Int->Z) (g:σ->α->σ ⊕ β) (e:σ->β) (I:Nat->σ->Prop)
 (hin:∀ s i (h:i < l.length),I i s->step (mk s (i:Int))=some (stepL mk i (g s l[i])))
 (hI:∀ s i (h:i < l.length) s',I i s->g s l[i]=.inl s'->I (i + 1) s')
 (hout:∀ s,I l.length s->step (mk s (l.length:Int))=some (.inr (e s))) (s:σ) (h0:I 0 s) :
 iter step (mk s 0)=some (runL g e s l):=by
 have key:∀ (f i:Nat) (s:σ),l.length - i ≤ f->i ≤ l.length->I i s->iter step (mk s (i:Int))=some (runL g e s (l.drop i)):=by
  intro f
  induction f with
  | zero =>
   intro i s h1 h2 h3
   have:i=l.length:=by omega
   subst this
   rw [yv757,hout s h3,List.drop_length]
   rfl
  | succ f ih =>
   intro i s h1 h2 h3
   by_cases hlt:i < l.length
   ·rw [yv757,hin s i hlt h3,List.drop_eq_getElem_cons hlt]
    simp only [runL]
    cases hg:g s l[i] with
    | inl s'=>exact ih (i + 1) s' (by omega) hlt (hI s i hlt s' h3 hg)
    | inr b=>rfl
   ·have:i=l.length:=by omega
    subst this
    rw [yv757,hout s h3,List.drop_length]
    rfl
 exact key l.length 0 s (by omega) (by omega) h0
theorem xv169 {Z β:Type} (step:Z->Option (Z ⊕ β)) (I:Nat->Z->Prop) (n:Nat) (Q:β->Prop)
 (hin:∀ i z,i < n->I i z->(∃ z',step z=some (.inl z')∧I (i + 1) z')∨(∃ b,step z=some (.inr b)∧Q b))
 (hout:∀ z,I n z->∃ b,step z=some (.inr b)∧Q b) (z:Z) (h0:I 0 z):∃ b,iter step z=some b∧Q b:=by
 have key:∀ (f i:Nat) (z:Z),n - i ≤ f->i ≤ n->I i z->∃ b,iter step z=some b∧Q b:=by
  intro f
  induction f with
  | zero =>
   intro i z h1 h2 h3
   have:i=n:=by omega
   subst this
   obtain ⟨b,e,q⟩:=hout z h3
   exact ⟨b,by rw [yv757,e],q⟩
  | succ f ih =>
   intro i z h1 h2 h3
   by_cases hlt:i < n
   ·rcases hin i z hlt h3 with ⟨z',e,h⟩|⟨b,e,q⟩
    ·obtain ⟨b,e2,q⟩:=ih (i + 1) z' (by omega) hlt h
     exact ⟨b,by rw [yv757,e];exact e2,q⟩
    ·exact ⟨b,by rw [yv757,e],q⟩
   ·have:i=n:=by omega
    subst this
    obtain ⟨b,e,q⟩:=hout z h3
    exact ⟨b,by rw [yv757,e],q⟩
 exact key n 0 z (by omega) (by omega) h0
theorem xv10 {i:Nat} (h:i < 9223372036854775807):w64 ((i:Int) + 1)=((i + 1:Nat):Int):=by
 rw [xv2 (by omega) (by omega)];simp
def mapO {α β:Type} (f:α->β) (o:Option (List α)):Option (List β):=if (L o).isEmpty then none else some ((L o).map f)
theorem xv87 {α β:Type} (f:α->β) (o:Option (List α)):L (mapO f o)=(L o).map f:=by
 simp only [mapO]
 split
 ·rename_i h
  rw [List.isEmpty_iff.1 h]
  rfl
 ·rfl
def accL {α β:Type} (f:α->β) (s:Option (List β)) (a:α):Option (List β) ⊕ Option (List β):=.inl (some (L s++[f a]))
theorem xv57 {α β:Type} (f:α->β):∀ (l:List α) (s:Option (List β)),runL (accL f) (fun x=>x) s l=if l.isEmpty then s else some (L s++l.map f)
 | [],s=>rfl
 | a::l,s=>by
  simp only [runL,accL]
  rw [xv57 f l]
  cases l with
  | nil=>rfl
  | cons b l=>simp [L]
end Go.Rv
namespace Go.Rv
def pQ (x:fn104):fn86:=⟨x.Id,x.N,x.A,x.B⟩
def pR (x:fn86):fn104:=⟨x.Id,x.N,x.A,x.B⟩
theorem pR_pQ (l:List fn104):(l.map pQ).map pR=l:=by rw [List.map_map];exact List.map_id l
theorem xv190 (o:Option (List fn104)) (h:(L o).length ≤ 1000):l06_To o=some (mapO pQ o):=by
 simp only [l06_To]
 have:=xv30 (L o) (l06_To_l0 o) (fun (s:Option (List fn86)) i=>(s,i)) (accL pQ) (fun x=>x) (fun i s=>(L s).length=i)
  (fun s i hi hI=>by
   simp only [l06_To_l0,l06_To_b0,l05_To]
   rw [if_pos (by simp;omega),xv0,List.getElem?_eq_getElem hi]
   simp only [Option.bind_some]
   rw [xv21 (by have:=hI;simp [room];omega) (by have:=hI;simp [room];omega)]
   simp only [Option.bind_some]
   rw [xv10 (by omega)]
   rfl)
  (fun s i hi s' hI hg=>by
   simp only [accL,Sum.inl.injEq] at hg
   subst hg
   simp [L,← hI])
  (fun s hI=>by
   simp only [l06_To_l0,l06_To_b0]
   rw [if_neg (by simp)])
  none rfl
 rw [this]
 simp only [Option.bind_some,xv57,mapO]
 rfl
theorem xv166 (o:Option (List fn86)) (h:(L o).length ≤ 1000):fn95 o=some (mapO pR o):=by
 simp only [fn95]
 have:=xv30 (L o) (fn95_l0 o) (fun (s:Option (List fn104)) i=>(s,i)) (accL pR) (fun x=>x) (fun i s=>(L s).length=i)
  (fun s i hi hI=>by
   simp only [fn95_l0,fn95_b0,fn94]
   rw [if_pos (by simp;omega),xv0,List.getElem?_eq_getElem hi]
   simp only [Option.bind_some]
   rw [xv21 (by have:=hI;simp [room];omega) (by have:=hI;simp [room];omega)]
   simp only [Option.bind_some]
   rw [xv10 (by omega)]
   rfl)
  (fun s i hi s' hI hg=>by
   simp only [accL,Sum.inl.injEq] at hg
   subst hg
   simp [L,← hI])
  (fun s hI=>by
   simp only [fn95_l0,fn95_b0]
   rw [if_neg (by simp)])
  none rfl
 rw [this]
 simp only [Option.bind_some,xv57,mapO]
 rfl
theorem nif {α:Type} (c:Bool) (x y:α):(if (!c)=true then some x else some y)=some (if c=true then y else x):=by cases c<;>rfl
theorem xv158 {α:Type} (l:List α) (step:Int->Option (Int ⊕ (Unit ⊕ Unit))) (q:α->Bool)
 (hin:∀ i (h:i < l.length),step (i:Int)=some (if q l[i] then .inl ((i + 1:Nat):Int) else .inr (.inl ()))) (hout:step (l.length:Int)=some (.inr (.inr ()))) :
 iter step 0=some (if l.all q then .inr () else .inl ()):=by
 have:=xv30 l step (fun (_:Unit) i=>i) (fun (_:Unit) (a:α)=>if q a then (.inl ():Unit ⊕ (Unit ⊕ Unit)) else .inr (.inl ())) (fun _=>.inr ()) (fun i s=>True)
  (fun s i hi hI=>by rw [hin i hi];cases q l[i]<;>rfl) (fun _ _ _ _ _ _=>trivial) (fun s hI=>hout) () trivial
 rw [this]
 have:∀ l:List α,runL (fun (_:Unit) (a:α)=>if q a then (.inl ():Unit ⊕ (Unit ⊕ Unit)) else .inr (.inl ())) (fun _=>.inr ()) () l=if l.all q then .inr () else .inl ():=by
  intro l
  induction l with
  | nil=>rfl
  | cons a l ih =>
   by_cases hq:q a=true
   ·rw [show (a::l).all q=l.all q by rw [List.all_cons,hq,Bool.true_and]]
    simp only [runL]
    rw [if_pos hq];exact ih
   ·rw [show (a::l).all q=false by rw [List.all_cons,show q a=false by simpa using hq,Bool.false_and]]
    simp only [runL]
    rw [if_neg hq];rfl
 rw [this]
theorem xv110 {α:Type} (l m:List α) (hlen:l.length=m.length) (step:Int->Option (Int ⊕ (Unit ⊕ Unit))) (q:α->α->Bool)
 (hin:∀ i (h:i < l.length),step (i:Int)=some (if q l[i] (m[i]'(by omega)) then .inl ((i + 1:Nat):Int) else .inr (.inl ()))) (hout:step (l.length:Int)=some (.inr (.inr ()))) (hq:∀ a b,q a b=true ↔ a=b) :
 ∃ r,iter step 0=some r∧((r=.inr ()∧l=m)∨(r=.inl ()∧l ≠ m)):=by
 have:=xv158 (l.zip m) step (fun x=>q x.1 x.2)
  (fun i hi=>by
   have h1:i < l.length:=by simp at hi;omega
   rw [hin i h1]
   simp)
  (by rw [show (l.zip m).length=l.length by simp;omega];exact hout)
 refine ⟨_,this,?_⟩
 have key:(l.zip m).all (fun x=>q x.1 x.2)=true ↔ l=m:=by
  clear this hin hout
  induction l generalizing m with
  | nil =>
   cases m with
   | nil=>simp
   | cons=>simp at hlen
  | cons a l ih =>
   cases m with
   | nil=>simp at hlen
   | cons b m =>
    rw [List.zip_cons_cons,List.all_cons,Bool.and_eq_true,hq,ih m (by simpa using hlen)]
    simp
 by_cases h:l=m
 ·left;rw [key.2 h];exact ⟨rfl,h⟩
 ·right
  have:(l.zip m).all (fun x=>q x.1 x.2)=false:=by
   cases hh:(l.zip m).all (fun x=>q x.1 x.2) with
   | false=>rfl
   | true=>exact absurd (key.1 hh) h
  rw [this];exact ⟨rfl,h⟩
theorem xv109 (a b:Option (List fn104)) (hl:(L a).length ≤ 100000):fn97 a b=some (decide (L a=L b)):=by
 simp only [fn97]
 by_cases hlen:(L a).length=(L b).length
 ·rw [if_neg (by simp [hlen])]
  obtain ⟨r,e,h⟩:=xv110 (L a) (L b) hlen (fn97_l0 a b) (fun x y=>(decide (x.Id=y.Id)) && ((decide (x.N=y.N)) && ((decide (x.A=y.A)) && (decide (x.B=y.B)))))
   (fun i hi=>by
    simp only [fn97_l0,fn97_b0]
    rw [if_pos (by simp;omega),xv0,xv0,List.getElem?_eq_getElem hi,List.getElem?_eq_getElem (show i < (L b).length by omega),xv10 (by omega)]
    simp only [Option.bind_some]
    exact nif _ _ _)
   (by simp only [fn97_l0,fn97_b0];rw [if_neg (by simp)])
   (fun x y=>by
    obtain ⟨a,b,c,d⟩:=x
    obtain ⟨a',b',c',d'⟩:=y
    simp)
  rw [e]
  rcases h with ⟨rfl,h⟩|⟨rfl,h⟩
  ·rw [decide_eq_true h];rfl
  ·rw [decide_eq_false h];rfl
 ·rw [if_pos (by simp;omega),decide_eq_false (fun h=>hlen (by rw [h]))]
end Go.Rv
namespace Go.Rv
end Go.Rv
namespace Go.Rv
end Go.Rv
namespace Go.Rv
def hasId (l:List fn104) (id:UInt8):Bool:=l.any (fun a=>decide (a.Id=id))
def zP:fn104:=⟨0,0,[],[]⟩
def getN (l:List fn104) (id:UInt8):fn104 × Bool:=match l.find? (fun a=>decide (a.Id=id)) with|some a=>(a,true)|none=>(zP,false)
theorem xv126 (l:List fn104) (id:UInt8):(getN l id).2=hasId l id:=by
 simp only [getN,hasId]
 cases h:l.find? (fun a=>decide (a.Id=id)) with
 | none =>
  have:=List.find?_eq_none.1 h
  symm
  simp only [List.any_eq_false]
  exact fun x hx=>this x hx
 | some a =>
  symm
  simp only [List.any_eq_true]
  exact ⟨a,List.mem_of_find?_eq_some h,List.find?_some (p:=fun a:fn104=>decide (a.Id=id)) h⟩
theorem xv144 (id:UInt8):∀ (l:List fn86) (s:Nat),
 ((l.find? (fun a=>decide (a.Id=id))=none)∧runL (fun (s:Nat) (a:fn86)=>if a.Id=id then (.inr (.inl ((s:Int),id)):Nat ⊕ ((Int × UInt8) ⊕ UInt8)) else .inl (s + 1)) (fun _=>.inr id) s l=.inr id) ∨
 (∃ k a,l[k]?=some a∧l.find? (fun a=>decide (a.Id=id))=some a∧runL (fun (s:Nat) (a:fn86)=>if a.Id=id then (.inr (.inl ((s:Int),id)):Nat ⊕ ((Int × UInt8) ⊕ UInt8)) else .inl (s + 1)) (fun _=>.inr id) s l=.inl (((s + k:Nat):Int),id))
 | [],s=>.inl ⟨rfl,rfl⟩
 | a::l,s=>by
  by_cases h:a.Id=id
  ·right
   refine ⟨0,a,rfl,by rw [List.find?_cons,decide_eq_true h],?_⟩
   simp only [runL]
   rw [if_pos h]
   rfl
  ·rcases xv144 id l (s + 1) with ⟨h1,h2⟩|⟨k,x,h1,h2,h3⟩
   ·left
    refine ⟨by rw [List.find?_cons,decide_eq_false h];exact h1,?_⟩
    simp only [runL]
    rw [if_neg h]
    exact h2
   ·right
    refine ⟨k + 1,x,by simpa using h1,by rw [List.find?_cons,decide_eq_false h];exact h2,?_⟩
    simp only [runL]
    rw [if_neg h]
    refine h3.trans ?_
    congr 2
    omega
theorem xv148 (o:Option (List fn86)) (id:UInt8) (hl:(L o).length ≤ 100000):∃ p,fn78 o id=some (p,(getN ((L o).map pR) id).2)∧pR p=(getN ((L o).map pR) id).1:=by
 simp only [fn78,fn3]
 have:=xv30 (L o) (fn3_l0 o ((L o).length:Int)) (fun (_:Nat) i=>(i,id)) (fun (s:Nat) (a:fn86)=>if a.Id=id then (.inr (.inl ((s:Int),id)):Nat ⊕ ((Int × UInt8) ⊕ UInt8)) else .inl (s + 1)) (fun _=>.inr id) (fun i s=>s=i)
  (fun s i hi hI=>by
   subst hI
   simp only [fn3_l0,fn3_b0,fn53]
   rw [if_pos (by simp;omega),xv0,List.getElem?_eq_getElem hi]
   simp only [Option.bind_some]
   by_cases h:(L o)[s].Id=id
   ·rw [if_pos (by simpa using h),if_pos h];rfl
   ·rw [if_neg (by simpa using h),if_neg h,xv10 (by omega)];rfl)
  (fun s i hi s' hI hg=>by
   subst hI
   split at hg
   ·cases hg
   ·simpa using hg.symm)
  (fun s hI=>by
   simp only [fn3_l0,fn3_b0]
   rw [if_neg (by simp)])
  0 rfl
 rw [this]
 have hmap:((L o).map pR).find? (fun a=>decide (a.Id=id))=((L o).find? (fun a=>decide (a.Id=id))).map pR:=by rw [List.find?_map];rfl
 rcases xv144 id (L o) 0 with ⟨h1,h2⟩|⟨k,x,h1,h2,h3⟩
 ·rw [h2]
  simp only [Option.bind_some]
  rw [if_pos (by simp)]
  simp only [getN,hmap,h1,Option.map_none]
  exact ⟨_,rfl,rfl⟩
 ·rw [h3]
  simp only [Option.bind_some,Nat.zero_add]
  rw [if_neg (by simp),xv0,h1]
  simp only [getN,hmap,h2,Option.map_some,Option.bind_some]
  exact ⟨_,rfl,rfl⟩
theorem xv74 (id:UInt8):∀ l:List fn104,runL (fun (_:Unit) (a:fn104)=>if a.Id=id then (Sum.inr (.inl a):Unit ⊕ (fn104 ⊕ Unit)) else .inl ()) (fun _=>.inr ()) () l=match l.find? (fun a=>decide (a.Id=id)) with|some a=>.inl a|none=>.inr ()
 | []=>rfl
 | a::l=>by
  simp only [runL,List.find?_cons]
  by_cases h:a.Id=id
  ·rw [if_pos h,decide_eq_true h]
  ·rw [if_neg h,decide_eq_false h]
   exact xv74 id l
theorem xv106 (w:Option (List fn104)) (id:UInt8) (hl:(L w).length ≤ 100000):fn112 w id=some (getN (L w) id):=by
 simp only [fn112]
 have:=xv30 (L w) (fn112_l0 w id) (fun (_:Unit) i=>i) (fun (_:Unit) (a:fn104)=>if a.Id=id then (Sum.inr (.inl a):Unit ⊕ (fn104 ⊕ Unit)) else .inl ()) (fun _=>.inr ()) (fun i s=>True)
  (fun s i hi hI=>by
   simp only [fn112_l0,fn112_b0]
   rw [if_pos (by simp;omega),xv0,List.getElem?_eq_getElem hi]
   simp only [Option.bind_some]
   by_cases h:(L w)[i].Id=id
   ·rw [if_pos (by simpa using h),if_pos h];rfl
   ·rw [if_neg (by simpa using h),if_neg h,xv10 (by omega)];rfl)
  (fun s i hi s' hI hg=>trivial)
  (fun s hI=>by
   simp only [fn112_l0,fn112_b0]
   rw [if_neg (by simp)])
  () trivial
 rw [this,xv74]
 simp only [Option.bind_some,getN]
 cases (L w).find? (fun a=>decide (a.Id=id))<;>rfl
def ordB (k:Int) (prev:Option fn104) (a:fn104):Bool:=match prev with
 | none=>true
 | some p=>!decide (p.Id > a.Id) && (!decide (p.Id=a.Id) || xv31 a.Id k)
def chk1 (k:Int) (prev:Option fn104) (a:fn104):Bool:=xv25 a.Id a.N a.A a.B && forB a.Id k && ordB k prev a
def chkL (k:Int):Option fn104->List fn104->Bool
 | _,[]=>true
 | p,a::l=>chk1 k p a && chkL k (some a) l
def xv82 (k:Int) (l:List fn104):Bool:=!decide (l.length > 1024) && chkL k none l && (hasId l 21 || !hasId l 22)
def xv130 {α:Type} (l:List α) (i:Nat):Option α:=if i=0 then none else l[i - 1]?
theorem xv143 (k:Int):∀ (l:List fn86) (p:Option fn86),runL (fun (p:Option fn86) (a:fn86)=>if chk1 k (p.map pR) (pR a) then (.inl (some a):Option fn86 ⊕ (fn86 ⊕ Unit)) else .inr (.inl a)) (fun _=>.inr ()) p l=.inr ()∧chkL k (p.map pR) (l.map pR)=true∨(∃ a,runL (fun (p:Option fn86) (a:fn86)=>if chk1 k (p.map pR) (pR a) then (.inl (some a):Option fn86 ⊕ (fn86 ⊕ Unit)) else .inr (.inl a)) (fun _=>.inr ()) p l=.inl a)∧chkL k (p.map pR) (l.map pR)=false
 | [],p=>.inl ⟨rfl,rfl⟩
 | a::l,p=>by
  simp only [runL,List.map_cons,chkL]
  by_cases h:chk1 k (p.map pR) (pR a)=true
  ·rw [if_pos h,h,Bool.true_and]
   exact xv143 k l (some a)
  ·right
   rw [if_neg h]
   refine ⟨⟨a,rfl⟩,?_⟩
   rw [show chk1 k (p.map pR) (pR a)=false by simpa using h,Bool.false_and]
theorem xv69 (k:Int) (o:Option (List fn86)) (hl:(L o).length ≤ 100000) (ht:∀ x ∈ L o,x.A.length ≤ 13000∧x.B.length ≤ 13000):fn54 k o=some (xv82 k ((L o).map pR)):=by
 simp only [fn54]
 by_cases hlen:(L o).length > 1024
 ·rw [if_pos (by simp;omega)]
  simp only [xv82,List.length_map]
  rw [decide_eq_true hlen]
  rfl
 ·rw [if_neg (by simp;omega)]
  have:=xv30 (L o) (fn54_l0 k o o ((L o).length:Int)) (fun (_:Option fn86) i=>i) (fun (p:Option fn86) (a:fn86)=>if chk1 k (p.map pR) (pR a) then (.inl (some a):Option fn86 ⊕ (fn86 ⊕ Unit)) else .inr (.inl a)) (fun _=>.inr ()) (fun i s=>s=xv130 (L o) i)
   (fun s i hi hI=>by
    subst hI
    have hx:=ht _ (List.getElem_mem hi)
    simp only [fn54_l0,fn54_b0]
    rw [if_pos (by simp;omega),xv0,List.getElem?_eq_getElem hi]
    simp only [Option.bind_some]
    rw [xv132 _ hx.1 hx.2,xv10 (by omega)]
    simp only [Option.bind_some,xv147]
    by_cases hv:xv25 (L o)[i].Id (L o)[i].N (L o)[i].A (L o)[i].B=true
    ·rw [if_neg (by simp [hv])]
     by_cases hf:forB (L o)[i].Id k=true
     ·rw [if_neg (by simp [hf])]
      have hc:∀ p,chk1 k p (pR (L o)[i])=ordB k p (pR (L o)[i]):=fun p=>by
       simp only [chk1]
       rw [show xv25 (pR (L o)[i]).Id (pR (L o)[i]).N (pR (L o)[i]).A (pR (L o)[i]).B=true from hv,show forB (pR (L o)[i]).Id k=true from hf]
       simp
      rw [hc]
      cases i with
      | zero=>rw [if_pos (by simp)];rfl
      | succ j =>
       have hj:j < (L o).length:=by omega
       rw [if_neg (by simp;omega),show w64 (((j + 1:Nat):Int) - 1)=(j:Int) from by rw [xv2 (by omega) (by omega)];omega,xv0,List.getElem?_eq_getElem hj]
       simp only [Option.bind_some,xv129]
       have ep:(xv130 (L o) (j + 1)).map pR=some (pR (L o)[j]):=by
        simp only [xv130,Nat.add_one_sub_one]
        rw [if_neg (by omega),List.getElem?_eq_getElem hj]
        rfl
       rw [ep]
       have eo:ordB k (some (pR (L o)[j])) (pR (L o)[j + 1])=(!decide ((L o)[j].Id > (L o)[j + 1].Id) && (!decide ((L o)[j].Id=(L o)[j + 1].Id) || xv31 (L o)[j + 1].Id k)):=rfl
       by_cases h1:(L o)[j].Id > (L o)[j + 1].Id
       ·rw [if_pos (by simpa using h1),if_neg (by rw [eo];simp [h1])];rfl
       ·rw [if_neg (by simpa using h1)]
        by_cases h2:(L o)[j].Id=(L o)[j + 1].Id
        ·rw [if_pos (by simpa using h2)]
         by_cases h3:xv31 (L o)[j + 1].Id k=true
         ·rw [if_neg (by simp [h3]),if_pos (by rw [eo];simp [h1,h3])];rfl
         ·rw [if_pos (by simpa using h3),if_neg (by rw [eo];simp [h2,h3])];rfl
        ·rw [if_neg (by simpa using h2),if_pos (by rw [eo];simp [h1,h2])];rfl
     ·rw [if_pos (by simpa using hf),if_neg (by simp only [chk1];intro q;simp only [Bool.and_eq_true] at q;exact hf q.1.2)];rfl
    ·rw [if_pos (by simpa using hv),if_neg (by simp only [chk1];intro q;simp only [Bool.and_eq_true] at q;exact hv q.1.1)];rfl)
   (fun s i hi s' hI hg=>by
    split at hg
    ·simp only [Sum.inl.injEq] at hg
     rw [← hg]
     simp only [xv130,Nat.add_one_sub_one]
     rw [if_neg (by omega),List.getElem?_eq_getElem hi]
    ·cases hg)
   (fun s hI=>by
    simp only [fn54_l0,fn54_b0]
    rw [if_neg (by simp)])
   none rfl
  rw [this]
  have hd:decide (((L o).map pR).length > 1024)=false:=decide_eq_false (by simpa using hlen)
  obtain ⟨p1,g1,_⟩:=xv148 o 22 hl
  obtain ⟨p2,g2,_⟩:=xv148 o 21 hl
  rcases xv143 k (L o) none with ⟨e1,e2⟩|⟨⟨a,e1⟩,e2⟩
  ·have e2:chkL k none ((L o).map pR)=true:=e2
   rw [e1]
   simp only [Option.bind_some]
   rw [g1]
   simp only [Option.bind_some]
   rw [g2]
   simp only [Option.bind_some,xv126]
   simp only [xv82]
   rw [hd,e2]
   cases hasId ((L o).map pR) 21<;>simp
  ·have e2:chkL k none ((L o).map pR)=false:=e2
   rw [e1]
   simp only [xv82]
   rw [hd,e2]
   rfl
end Go.Rv
namespace Go.Rv
end Go.Rv
namespace Go.Rv
section
variable {α:Type} (k:α->Nat)
def SE (l s:List α):Prop:=∀ v,l.filter (fun a=>k a == v)=s.filter (fun a=>k a == v)
def Srt (l:List α):Prop:=l.Pairwise (fun a b=>k a ≤ k b)
variable {k}
theorem SE.refl (l:List α):SE k l l:=fun _=>rfl
theorem SE.trans {a b c:List α} (h:SE k a b) (h2:SE k b c):SE k a c:=fun v=>(h v).trans (h2 v)
theorem SE.symm {a b:List α} (h:SE k a b):SE k b a:=fun v=>(h v).symm
theorem SE.app {a b c d:List α} (h:SE k a b) (h2:SE k c d):SE k (a++c) (b++d):=fun v=>by rw [List.filter_append,List.filter_append,h v,h2 v]
theorem SE.mem {a b:List α} (h:SE k a b) {x:α} (hx:x ∈ a):x ∈ b:=by
 have:x ∈ a.filter (fun y=>k y == k x):=List.mem_filter.2 ⟨hx,by simp⟩
 rw [h] at this
 exact (List.mem_filter.1 this).1
theorem SE.swap (X Y:List α) (h:∀ x ∈ X,∀ y ∈ Y,k x ≠ k y):SE k (X++Y) (Y++X):=by
 intro v
 rw [List.filter_append,List.filter_append]
 by_cases hx:X.filter (fun a=>k a == v)=[]
 ·rw [hx];simp
 ·obtain ⟨x,hx⟩:=List.exists_mem_of_ne_nil _ hx
  obtain ⟨h1,h2⟩:=List.mem_filter.1 hx
  have h2:k x=v:=by simpa using h2
  have:Y.filter (fun a=>k a == v)=[]:=by
   rw [List.filter_eq_nil_iff]
   intro y hy hq
   have hq:k y=v:=by simpa using hq
   exact h x h1 y hy (by rw [h2,hq])
  rw [this];simp
theorem SE.nil {s:List α} (h:SE k [] s):s=[]:=by
 cases s with
 | nil=>rfl
 | cons a s =>
  have:=h (k a)
  simp at this
theorem xv47:∀ (l s:List α),Srt k l->Srt k s->SE k l s->l=s
 | [],s,_,_,h=>h.nil.symm
 | a::l,[],_,_,h=>h.symm.nil
 | a::l,b::s,h1,h2,h=>by
  have c1:=List.pairwise_cons.1 h1
  have c2:=List.pairwise_cons.1 h2
  have ab:k a ≤ k b:=by
   rcases List.mem_cons.1 (h.symm.mem (List.mem_cons_self (a:=b) (l:=s))) with e|e
   ·rw [e];exact Nat.le_refl _
   ·exact c1.1 b e
  have ba:k b ≤ k a:=by
   rcases List.mem_cons.1 (h.mem (List.mem_cons_self (a:=a) (l:=l))) with e|e
   ·rw [e];exact Nat.le_refl _
   ·exact c2.1 a e
  have e:k a=k b:=Nat.le_antisymm ab ba
  have h0:=h (k a)
  rw [List.filter_cons,List.filter_cons,if_pos (by simp),if_pos (by simp [e])] at h0
  have hab:a=b:=(List.cons.inj h0).1
  subst hab
  refine congrArg _ (xv47 l s c1.2 c2.2 fun v=>?_)
  have:=h v
  rw [List.filter_cons,List.filter_cons] at this
  split at this
  ·exact (List.cons.inj this).2
  ·exact this
theorem SE.len {l s:List α} (h:SE k l s):l.length=s.length:=by
 have key:∀ (n:Nat) (l s:List α),l.length ≤ n->SE k l s->l.length=s.length:=by
  intro n
  induction n with
  | zero =>
   intro l s hl h
   have:l=[]:=List.length_eq_zero_iff.1 (by omega)
   subst this
   rw [h.nil]
  | succ n ih =>
   intro l s hl h
   cases l with
   | nil=>rw [h.nil]
   | cons a l =>
    have e1:∀ t:List α,t.length=(t.filter (fun y=>k y == k a)).length + (t.filter (fun y=>!(k y == k a))).length:=by
     intro t
     induction t with
     | nil=>rfl
     | cons b t ih =>
      by_cases hb:k b=k a
      ·simp [List.filter_cons,hb,ih];omega
      ·simp [List.filter_cons,hb,ih];omega
    rw [e1 (a::l),e1 s,h (k a)]
    have:=ih ((a::l).filter (fun y=>!(k y == k a))) (s.filter (fun y=>!(k y == k a))) (by
     have:=e1 (a::l)
     rw [List.filter_cons,if_pos (by simp)] at this
     simp at this hl ⊢
     omega) (fun v=>by
     rw [List.filter_filter,List.filter_filter]
     by_cases hv:v=k a
     ·subst hv
      have z:∀ t:List α,t.filter (fun y=>(k y == k a) && !(k y == k a))=[]:=by
       intro t;rw [List.filter_eq_nil_iff];intro y _;simp
      rw [z,z]
     ·have z:∀ t:List α,t.filter (fun y=>(k y == v) && !(k y == k a))=t.filter (fun y=>k y == v):=by
       intro t
       refine List.filter_congr fun y _=>?_
       by_cases hy:k y=v
       ·simp [hy,hv]
       ·simp [hy]
      rw [z,z];exact h v)
    omega
 exact key l.length l s (Nat.le_refl _) h
theorem SE.perm [DecidableEq α] {l s:List α} (h:SE k l s):l.Perm s:=by
 refine List.perm_iff_count.2 fun a=>?_
 have e:∀ t:List α,t.count a=(t.filter (fun y=>k y == k a)).count a:=fun t=>by rw [List.count_filter (by simp)]
 rw [e l,e s,h]
theorem xv78 {a b:List α} (h1:Srt k a) (h2:Srt k b) (h:∀ x ∈ a,∀ y ∈ b,k x ≤ k y):Srt k (a++b):=List.pairwise_append.2 ⟨h1,h2,h⟩
theorem Srt.left {a b:List α} (h:Srt k (a++b)):Srt k a:=(List.pairwise_append.1 h).1
theorem Srt.right {a b:List α} (h:Srt k (a++b)):Srt k b:=(List.pairwise_append.1 h).2.1
theorem Srt.le {a b:List α} (h:Srt k (a++b)):∀ x ∈ a,∀ y ∈ b,k x ≤ k y:=(List.pairwise_append.1 h).2.2
theorem xv62 {X1 X2 Y1 Y2 S1 S2:List α} (hX:Srt k (X1++X2)) (hY:Srt k (Y1++Y2)) (h1:∀ y ∈ Y1,∀ x ∈ X2,k y < k x) (h2:∀ x ∈ X1,∀ y ∈ Y2,k x ≤ k y)
 (s1:Srt k S1) (s2:Srt k S2) (e1:SE k (X1++Y1) S1) (e2:SE k (X2++Y2) S2):Srt k (S1++S2)∧SE k (X1++X2++(Y1++Y2)) (S1++S2):=by
 refine ⟨xv78 s1 s2 fun x hx y hy=>?_,?_⟩
 ·rcases List.mem_append.1 (e1.symm.mem hx) with hx|hx<;>rcases List.mem_append.1 (e2.symm.mem hy) with hy|hy
  ·exact hX.le x hx y hy
  ·exact h2 x hx y hy
  ·exact Nat.le_of_lt (h1 x hx y hy)
  ·exact hY.le x hx y hy
 ·have sw:SE k (X2++Y1) (Y1++X2):=SE.swap X2 Y1 fun x hx y hy=>by have:=h1 y hy x hx;omega
  have:SE k (X1++X2++(Y1++Y2)) (X1++Y1++(X2++Y2)):=by
   have:=((SE.refl X1).app sw).app (SE.refl (k:=k) Y2)
   simpa [List.append_assoc] using this
  exact this.trans (e1.app e2)
end
end Go.Rv
namespace Go.Rv
abbrev kr (p:fn104):Nat:=p.Id.toNat
abbrev SrtP (l:List fn104):Prop:=l.Pairwise (fun a b=>a.Id ≤ b.Id)
theorem xv76 {α:Type}:∀ (p:List α) (y z:α) (t:List α),setR (p++y::t) p.length z=p++z::t
 | [],_,_,_=>rfl
 | a::p,y,z,t=>by simp only [List.cons_append,List.length_cons,setR];rw [xv76 p]
theorem xv112 {α:Type} {l:List α} {k:Nat} (h:l.length=k + 1):∃ l' z,l=l'++[z]∧l'.length=k:=by
 have hne:l ≠ []:=by intro e;rw [e] at h;simp at h
 exact ⟨l.dropLast,l.getLast hne,(List.dropLast_concat_getLast hne).symm,by rw [List.length_dropLast];omega⟩
theorem xv202 (n:Nat) (hn:n ≤ 100000):∀ (k:Nat) (pre:List fn104) (y:fn104) (seg rest:List fn104),pre.length=k->(pre++y::(seg++rest)).length=n->SrtP (pre++seg)->(∀ s ∈ seg,y.Id < s.Id) ->
 ∃ l',iter (fn69_l1 n) ((k:Int),pre++y::(seg++rest))=some (l'++rest)∧SrtP l'∧SE kr (pre++y::seg) l'
 | 0,pre,y,seg,rest,hk,hl,hs,hy=>by
  have:pre=[]:=List.length_eq_zero_iff.1 hk
  subst this
  refine ⟨y::seg,?_,List.pairwise_cons.2 ⟨fun s h=>UInt8.le_of_lt (hy s h),by simpa using hs⟩,SE.refl _⟩
  rw [yv757]
  simp only [fn69_l1,fn69_b1]
  rw [if_neg (by simp)]
  simp
 | k + 1,pre,y,seg,rest,hk,hl,hs,hy=>by
  obtain ⟨pre,z,rfl,hk'⟩:=xv112 hk
  have hlen:k + 1 + (1 + seg.length + rest.length)=n:=by simp only [List.length_append,List.length_cons,List.length_nil] at hl;omega
  have e1:w64 (((k + 1:Nat):Int) - 1)=(k:Int):=by rw [xv2 (by omega) (by omega)];omega
  have g1:((pre++[z])++y::(seg++rest))[k]?=some z:=by rw [List.append_assoc,← hk'];simp
  have g2:((pre++[z])++y::(seg++rest))[k + 1]?=some y:=by rw [← hk];simp
  have s1:setR ((pre++[z])++y::(seg++rest)) k y=pre++y::(y::(seg++rest)):=by rw [List.append_assoc,← hk'];exact xv76 _ _ _ _
  have s2:setR (pre++y::(y::(seg++rest))) (k + 1) z=pre++y::(z::seg++rest):=by
   have:=xv76 (pre++[y]) y z (seg++rest)
   rw [show (pre++[y]).length=k + 1 by simp [hk']] at this
   simpa using this
  have g3:(pre++y::(y::(seg++rest)))[k + 1]?=some y:=by
   have:(pre++[y]++y::(seg++rest))[(pre++[y]).length]?=some y:=by simp
   rw [show (pre++[y]).length=k + 1 by simp [hk']] at this
   simpa using this
  have c1:chk (decide (0 ≤ (k:Int)∧(k:Int) < ((n:Nat):Int)))=some ():=chk_d ⟨by omega,by omega⟩
  have c2:chk (decide (0 ≤ ((k + 1:Nat):Int)∧((k + 1:Nat):Int) < ((n:Nat):Int)))=some ():=chk_d ⟨by omega,by omega⟩
  have hpz:SrtP (pre++z::seg):=by simpa using hs
  rw [yv757]
  simp only [fn69_l1,fn69_b1,e1,c1,c2,xv0,Int.toNat_natCast,g1,g2,s1,Option.bind_some]
  rw [if_pos (by rw [decide_eq_true_eq];omega)]
  by_cases hz:z.Id > y.Id
  ·rw [if_pos (decide_eq_true hz)]
   simp only [g3,s2,Option.bind_some]
   obtain ⟨l',h1,h2,h3⟩:=xv202 n hn k pre y (z::seg) rest hk' (by simp only [List.length_append,List.length_cons];omega) hpz (fun s h=>by
    rcases List.mem_cons.1 h with rfl|h
    ·exact hz
    ·exact hy s h)
   refine ⟨l',h1,h2,SE.trans ?_ h3⟩
   have sw:SE kr ([z]++[y]) ([y]++[z]):=SE.swap _ _ fun a ha b hb=>by
    rw [List.mem_singleton.1 ha,List.mem_singleton.1 hb]
    have:=UInt8.lt_iff_toNat_lt.1 hz
    show z.Id.toNat ≠ y.Id.toNat
    omega
   have:=((SE.refl (k:=kr) pre).app sw).app (SE.refl (k:=kr) seg)
   simpa using this
  ·rw [if_neg (by simpa using hz)]
   refine ⟨(pre++[z])++y::seg,by simp,?_,SE.refl _⟩
   have hzy:z.Id ≤ y.Id:=UInt8.not_lt.1 hz
   rw [List.append_assoc]
   obtain ⟨p1,p2,p3⟩:=List.pairwise_append.1 hpz
   obtain ⟨p4,p5⟩:=List.pairwise_cons.1 p2
   refine List.pairwise_append.2 ⟨p1,List.pairwise_cons.2 ⟨fun b hb=>?_,List.pairwise_cons.2 ⟨fun s h=>UInt8.le_of_lt (hy s h),p5⟩⟩,fun a ha b hb=>?_⟩
   ·rcases List.mem_cons.1 hb with rfl|hb
    ·exact hzy
    ·exact p4 b hb
   ·have haz:=p3 a ha z (by simp)
    rcases List.mem_cons.1 hb with rfl|hb
    ·exact haz
    ·rcases List.mem_cons.1 hb with rfl|hb
     ·exact UInt8.le_trans haz hzy
     ·exact p3 a ha b (by simp [hb])
theorem xv154 (n:Nat) (hn:n ≤ 100000):∀ (rest srt:List fn104),SrtP srt->(srt++rest).length=n ->
 ∃ l',iter (fn69_l0 n) ((srt.length:Int),srt++rest)=some l'∧SrtP l'∧SE kr (srt++rest) l'
 | [],srt,hs,hl=>by
  refine ⟨srt,?_,hs,by simpa using SE.refl srt⟩
  rw [yv757]
  simp only [fn69_l0,fn69_b0]
  rw [if_neg (by simp at hl;simp [hl])]
  simp
 | y::rest,srt,hs,hl=>by
  obtain ⟨l',h1,h2,h3⟩:=xv202 n hn srt.length srt y [] rest rfl (by simpa using hl) (by simpa using hs) (by simp)
  have hlen:=h3.len
  simp only [List.length_append,List.length_cons,List.length_nil] at hlen hl
  obtain ⟨l'',k1,k2,k3⟩:=xv154 n hn rest l' h2 (by simp only [List.length_append];omega)
  refine ⟨l'',?_,k2,SE.trans ?_ k3⟩
  ·rw [yv757]
   simp only [fn69_l0,fn69_b0]
   rw [if_pos (by rw [decide_eq_true_eq];omega)]
   simp only [List.nil_append] at h1
   rw [h1]
   simp only [Option.bind_some]
   rw [xv10 (by omega),show srt.length + 1=l'.length by omega]
   exact k1
  ·have:=h3.app (SE.refl (k:=kr) rest)
   simpa using this
theorem xv107 (o:Option (List fn104)) (h:(L o).length ≤ 100000):∃ l',fn96 o=some (some l')∧SrtP l'∧SE kr (L o) l':=by
 by_cases he:L o=[]
 ·refine ⟨[],?_,List.Pairwise.nil,by rw [he];exact SE.refl _⟩
  have e0:(L o).isEmpty=true:=by rw [he];rfl
  simp only [fn96,e0,cond_true,fn68]
  have ha:appO 40 (some []) o=some (some ([]:List fn104)):=by
   simp only [appO,he]
   rw [if_pos (by simp [room])]
   rfl
  rw [ha]
  simp only [Option.bind_some]
  rw [yv757]
  simp only [fn68_l0,fn68_b0]
  rw [if_neg (by simp)]
  rfl
 ·have e0:(L o).isEmpty=false:=by
   cases hl:L o with
   | nil=>exact absurd hl he
   | cons a l=>rfl
  simp only [fn96,e0,cond_false,fn69]
  rw [chk_d ⟨by unfold room;omega,by unfold room;omega⟩]
  obtain ⟨y,l,hl⟩:=List.exists_cons_of_ne_nil he
  obtain ⟨l',h1,h2,h3⟩:=xv154 (L o).length (by omega) l [y] (by simp) (by rw [hl];simp)
  have hlen:=h3.len.symm
  simp only [Option.bind_some]
  have h1':iter (fn69_l0 (L o).length) (1,L o)=some l':=by
   have:=h1
   rw [show ([y]:List fn104)++l=L o from hl.symm] at this
   exact this
  rw [h1']
  have hl2:l'.length=(L o).length:=by rw [hl];simpa using hlen
  simp only [Option.bind_some]
  rw [chk_d ⟨by rw [hl];simp,by omega⟩]
  refine ⟨l',?_,h2,by rw [hl];simpa using h3⟩
  simp only [Option.bind_some]
  rw [← hl2,List.take_length]
theorem xv182 (o:Option (List fn104)) (h:(L o).length ≤ 1000):∃ l',fn96 o=some (some l')∧SrtP l'∧l'.Perm (L o) :=
 let ⟨l',h1,h2,h3⟩:=xv107 o (by omega);⟨l',h1,h2,h3.perm.symm⟩
end Go.Rv
namespace Go.Rv
def vb (n:Nat):List UInt8:=if h:n < 128 then [UInt8.ofNat n] else UInt8.ofNat (n % 128 + 128)::vb (n / 128)
theorem vb_lt {n:Nat} (h:n < 128):vb n=[UInt8.ofNat n]:=by rw [vb,dif_pos h]
theorem vb_ge {n:Nat} (h:¬ n < 128):vb n=UInt8.ofNat (n % 128 + 128)::vb (n / 128):=by rw [vb,dif_neg h]
theorem xv114:∀ (k n:Nat),n < 128 ^ k->(vb n).length ≤ k + 1
 | 0,n,h=>by rw [vb_lt (by omega)];simp
 | k + 1,n,h=>by
  by_cases hn:n < 128
  ·rw [vb_lt hn];simp
  ·rw [vb_ge hn]
   have:=xv114 k (n / 128) (by rw [Nat.pow_succ] at h;exact Nat.div_lt_of_lt_mul (by omega))
   simp;omega
theorem xv113 (x:UInt32):x.toNat < 128 ^ 5:=by
 have:=x.toNat_lt
 have e:(128:Nat) ^ 5=34359738368:=by decide
 omega
theorem xv80:∀ (m:Nat) (x:UInt32) (out:Option (List UInt8)),x.toNat < m->(L out).length + (vb x.toNat).length ≤ 140737488355328 ->
 ((iter fn88_l0 (x,out)).bind fun (x9,x10)=>(appO 1 x10 (some [u8 (x9.toNat:Int)])).bind fun x11=>some x11)=some (some (L out++vb x.toNat))
 | 0,x,out,h,_=>by omega
 | m + 1,x,out,h,hr=>by
  have hx:=x.toNat_lt
  rw [yv757]
  simp only [fn88_l0,fn88_b0]
  by_cases h1:128 ≤ x.toNat
  ·have hge:(x ≥ (128:UInt32)):=by show (128:UInt32) ≤ x;rw [UInt32.le_iff_toNat_le];exact h1
   rw [vb_ge (by omega)] at hr ⊢
   rw [if_pos (by simpa using hge),xv21 (by simp [room] at hr ⊢;omega) (by simp [room] at hr ⊢;omega),Option.bind_some]
   simp only [Option.bind]
   have e7:(((7:UInt64).toNat:Int))=((7:Nat):Int):=rfl
   have hs:(yv518 x ((7:UInt64).toNat:Int)).toNat=x.toNat / 128:=by rw [e7,xv36 (by omega)]
   have ih:=xv80 m (yv518 x ((7:UInt64).toNat:Int)) (some (L out++[u8 (x.toNat:Int) ||| 128])) (by rw [hs];omega) (by rw [hs];simp [L] at hr ⊢;omega)
   simp only [Option.bind] at ih
   rw [ih,hs]
   have e8:(u8 (x.toNat:Int) ||| 128)=UInt8.ofNat (x.toNat % 128 + 128):=by
    rw [eq8,hi7,u8_toNat']
    simp only [UInt8.toNat_ofNat']
    omega
   rw [e8]
   simp [L]
  ·have hge:¬ (x ≥ (128:UInt32)):=by intro hh;have:=UInt32.le_iff_toNat_le.1 hh;exact h1 this
   rw [vb_lt (by omega)] at hr ⊢
   rw [if_neg (by simpa using hge)]
   simp only [Option.bind]
   rw [xv21 (by simp [room] at hr ⊢;omega) (by simp [room] at hr ⊢;omega)]
   have e8:u8 (x.toNat:Int)=UInt8.ofNat x.toNat:=by rw [eq8,u8_toNat'];simp only [UInt8.toNat_ofNat'];omega
   simp [e8]
theorem xv203 {n:UInt32}:n > (268435455:UInt32) ↔ 268435455 < n.toNat:=UInt32.lt_iff_toNat_lt
theorem xv51 (b:Option (List UInt8)) (h:(L b).length ≤ 140737488355328):fn15 b=some b:=by
 cases b with
 | none=>rfl
 | some l =>
  simp only [fn15]
  rw [if_neg (by simp),xv26 (by simpa [room,L] using h) (by simpa [room,L] using h)]
  rfl
theorem xv156 (b:Option (List UInt8)) (n:UInt32) (h:(L b).length ≤ 140737488355000):fn88 b n=some (if 268435455 < n.toNat then b else some (L b++vb n.toNat)):=by
 simp only [fn88]
 rw [xv51 b (by omega),Option.bind_some]
 have hl:=xv114 5 n.toNat (xv113 n)
 by_cases hn:268435455 < n.toNat
 ·rw [if_pos (by simpa [xv203] using hn),if_pos hn]
 ·rw [if_neg (by simpa [xv203] using hn),if_neg hn]
  exact xv80 _ n b (Nat.lt_succ_self _) (by omega)
def be:Nat->Nat->List UInt8
 | 0,_=>[]
 | k + 1,n=>UInt8.ofNat (n / 256 ^ k % 256)::be k n
theorem xv4:∀ (k n:Nat),(be k n).length=k
 | 0,_=>rfl
 | k + 1,n=>by simp [be,xv4 k n]
theorem be1 (n:Nat):be 1 n=[UInt8.ofNat (n % 256)]:=by simp [be]
theorem be2 (n:Nat):be 2 n=[UInt8.ofNat (n / 256 % 256),UInt8.ofNat (n % 256)]:=by simp [be]
theorem be4 (n:Nat):be 4 n=[UInt8.ofNat (n / 16777216 % 256),UInt8.ofNat (n / 65536 % 256),UInt8.ofNat (n / 256 % 256),UInt8.ofNat (n % 256)]:=by simp [be]
theorem xv218 {n m:Nat} (h:n % 256=m % 256):u8 (n:Int)=UInt8.ofNat m:=by
 rw [eq8,u8_toNat'];simp only [UInt8.toNat_ofNat'];omega
def lim:Nat:=140737488300000
theorem clone_eq' (b:Option (List UInt8)) (h:(L b).length ≤ lim):fn15 b=some b:=xv51 b (by simp only [lim] at h;omega)
theorem xv160 (b:Option (List UInt8)) (a:UInt8) (l:List UInt8) (h:(L b).length + l.length + 1 ≤ lim):appO 1 b (some (a::l))=some (some (L b++a::l)):=by
 simp only [lim] at h
 exact xv21 (by simp [room];omega) (by simp [room];omega)
theorem xv191 (b:Option (List UInt8)) (c:UInt8) (h:(L b).length + 1 ≤ lim):fn73 b c=some (some (L b++be 1 c.toNat)):=by
 simp only [fn73]
 have hc:=c.toNat_lt
 rw [clone_eq' b (by omega),Option.bind_some,xv160 b c [] (by simpa using h),be1,Nat.mod_eq_of_lt (by omega),UInt8.ofNat_toNat];rfl
theorem xv79 (b:Option (List UInt8)) (n:UInt16) (h:(L b).length + 2 ≤ lim):fn87 b n=some (some (L b++be 2 n.toNat)):=by
 simp only [fn87]
 have e8:(((8:UInt64).toNat:Int))=((8:Nat):Int):=rfl
 rw [clone_eq' b (by omega),Option.bind_some,e8,xv160 b _ _ (by simpa using h),be2,xv84 (by omega),xv218 (m:=n.toNat / 256 % 256) (by omega),xv218 (m:=n.toNat % 256) (by omega)];rfl
theorem xv192 (b:Option (List UInt8)) (n:UInt32) (h:(L b).length + 4 ≤ lim):fn74 b n=some (some (L b++be 4 n.toNat)):=by
 simp only [fn74]
 have hn:=n.toNat_lt
 have e16:(((16:UInt64).toNat:Int))=((16:Nat):Int):=rfl
 rw [e16,xv79 b _ (by omega),Option.bind_some,xv79 _ _ (by simp [L,xv4] at h ⊢;omega),be2,be2,be4,u16_toNat',u16_toNat',xv36 (by omega)]
 simp only [Option.bind_some,L,Option.getD_some,List.append_assoc,List.cons_append,List.nil_append]
 congr 3
 have e1:(((n.toNat / 2 ^ 16:Nat):Int) % 65536).toNat=n.toNat / 65536:=by omega
 have e2:((n.toNat:Int) % 65536).toNat=n.toNat % 65536:=by omega
 rw [e1,e2,show n.toNat / 65536 / 256=n.toNat / 16777216 by omega,show n.toNat % 65536 / 256 % 256=n.toNat / 256 % 256 by omega,show n.toNat % 65536 % 256=n.toNat % 256 by omega]
theorem xv49 {n:Nat} (h:n < 65536):(u16 (n:Int)).toNat=n:=by rw [u16_toNat'];omega
theorem xv11 {n:Nat} (h:n < 18446744073709551616):(u64 (n:Int)).toNat=n:=by rw [u64_toNat'];omega
theorem xv116 (b:Option (List UInt8)) (x:List UInt8) (hx:x.length ≤ 65535) (h:(L b).length + x.length + 2 ≤ lim):fn89 b x=some (some (L b++(be 2 x.length++x))):=by
 simp only [fn89]
 have hl:(L b).length + x.length + 2 ≤ 140737488300000:=h
 rw [if_neg (by simp;omega),xv79 b _ (by omega),Option.bind_some,xv49 (by omega),xv26 (by simp [room,L,xv4] at hl ⊢;omega) (by simp [room,L,xv4] at hl ⊢;omega)]
 simp [L]
end Go.Rv
namespace Go.Rv
def binN (x:List UInt8):List UInt8:=be 2 x.length++x
def oneN (p:fn104):List UInt8:=p.Id::(
 if typeT p.Id=1 then be 1 p.N.toNat else if typeT p.Id=2 then be 2 p.N.toNat else if typeT p.Id=3 then be 4 p.N.toNat
 else if typeT p.Id=4 then (if 268435455 < p.N.toNat then [] else vb p.N.toNat) else if typeT p.Id=7 then binN p.A++binN p.B else binN p.A)
def secN (l:List fn104):List UInt8:=l.flatMap oneN
def okB (p:fn104):Bool:=xv8 p.Id p.N p.A p.B
theorem xv115 (n:UInt32):(vb n.toNat).length ≤ 6:=xv114 5 n.toNat (xv113 n)
theorem xv99 (p:fn104) (ha:p.A.length ≤ 13000) (hb:p.B.length ≤ 13000):(oneN p).length ≤ 26100:=by
 have:=xv115 p.N
 simp only [oneN,binN]
 split
 ·simp [xv4]
 ·split
  ·simp [xv4]
  ·split
   ·simp [xv4]
   ·split
    ·split<;>simp<;>omega
    ·split<;>simp [xv4]<;>omega
theorem xv221 (n:Nat):be 1 (u8 (n:Int)).toNat=be 1 n:=by
 rw [be1,be1,u8_toNat']
 congr 2
 omega
theorem xv193 (n:Nat):be 2 (u16 (n:Int)).toNat=be 2 n:=by
 have h:(u16 (n:Int)).toNat=n % 65536:=by rw [u16_toNat'];omega
 have e1:n % 65536 / 256 % 256=n / 256 % 256:=by omega
 have e2:n % 65536 % 256=n % 256:=by omega
 rw [be2,be2,h,e1,e2]
theorem xv205 (b:Option (List UInt8)) (p:fn86) (ha:p.A.length ≤ 13000) (hb:p.B.length ≤ 13000) (h:(L b).length ≤ 130000000000000) :
 ∃ o,fn75 b p=some o∧L o=L b++oneN (pR p):=by
 have hl:lim=140737488300000:=rfl
 simp only [fn75]
 rw [xv160 b p.Id [] (by rw [hl];simp;omega)]
 simp only [Option.bind_some,xv9]
 have e:oneN (pR p)=p.Id::(
  if typeT p.Id=1 then be 1 p.N.toNat else if typeT p.Id=2 then be 2 p.N.toNat else if typeT p.Id=3 then be 4 p.N.toNat
  else if typeT p.Id=4 then (if 268435455 < p.N.toNat then [] else vb p.N.toNat) else if typeT p.Id=7 then binN p.A++binN p.B else binN p.A):=rfl
 rw [e]
 have hlen:(L (some (L b++[p.Id]))).length=(L b).length + 1:=by simp [L]
 by_cases h1:typeT p.Id=1
 ·rw [if_pos (by simpa using h1),if_pos h1,xv191 _ _ (by rw [hlen,hl];omega),xv221]
  exact ⟨_,rfl,by simp [L]⟩
 ·rw [if_neg (by simpa using h1),if_neg h1]
  by_cases h2:typeT p.Id=2
  ·rw [if_pos (by simpa using h2),if_pos h2,xv79 _ _ (by rw [hlen,hl];omega),xv193]
   exact ⟨_,rfl,by simp [L]⟩
  ·rw [if_neg (by simpa using h2),if_neg h2]
   by_cases h3:typeT p.Id=3
   ·rw [if_pos (by simpa using h3),if_pos h3,xv192 _ _ (by rw [hlen,hl];omega)]
    exact ⟨_,rfl,by simp [L]⟩
   ·rw [if_neg (by simpa using h3),if_neg h3]
    by_cases h4:typeT p.Id=4
    ·rw [if_pos (by simpa using h4),if_pos h4,xv156 _ _ (by rw [hlen];omega)]
     refine ⟨_,rfl,?_⟩
     split<;>simp [L]
    ·rw [if_neg (by simpa using h4),if_neg h4]
     by_cases h7:typeT p.Id=7
     ·rw [if_pos (by simpa using h7),if_pos h7,xv116 _ _ (by omega) (by rw [hlen,hl];omega)]
      simp only [Option.bind_some]
      rw [xv116 _ _ (by omega) (by rw [hl];simp [L,xv4];simp [L] at h;omega)]
      exact ⟨_,rfl,by simp [L,binN]⟩
     ·rw [if_neg (by simpa using h7),if_neg h7,xv116 _ _ (by omega) (by rw [hlen,hl];omega)]
      exact ⟨_,rfl,by simp [L,binN]⟩
theorem xv101 (g:fn86->Option (List UInt8)->Option (List UInt8)) (hg:∀ p s,L (g p s)=L s++oneN (pR p)):∀ (l:List fn86) (s:Option (List UInt8)),
 ((l.map pR).all okB=true∧∃ o,runL (fun (s:Option (List UInt8)) (a:fn86)=>if okB (pR a) then .inl (g a s) else (.inr (.inl a):Option (List UInt8) ⊕ (fn86 ⊕ Option (List UInt8)))) (fun s=>.inr s) s l=.inr o∧L o=L s++secN (l.map pR)) ∨
 ((l.map pR).all okB=false∧∃ a,runL (fun (s:Option (List UInt8)) (a:fn86)=>if okB (pR a) then .inl (g a s) else (.inr (.inl a):Option (List UInt8) ⊕ (fn86 ⊕ Option (List UInt8)))) (fun s=>.inr s) s l=.inl a)
 | [],s=>.inl ⟨rfl,s,rfl,by simp [secN]⟩
 | a::l,s=>by
  by_cases h:okB (pR a)=true
  ·have e:((a::l).map pR).all okB=(l.map pR).all okB:=by rw [List.map_cons,List.all_cons,h,Bool.true_and]
   rw [e]
   simp only [runL]
   rw [if_pos h]
   rcases xv101 g hg l (g a s) with ⟨h1,o,h2,h3⟩|⟨h1,x,h2⟩
   ·exact .inl ⟨h1,o,h2,by rw [h3,hg];simp [secN,List.append_assoc]⟩
   ·exact .inr ⟨h1,x,h2⟩
  ·right
   refine ⟨by rw [List.map_cons,List.all_cons,show okB (pR a)=false by simpa using h,Bool.false_and],a,?_⟩
   simp only [runL]
   rw [if_neg h]
theorem xv153 (l:List fn104) (h:∀ x ∈ l,x.A.length ≤ 13000∧x.B.length ≤ 13000):(secN l).length ≤ 26100 * l.length:=by
 induction l with
 | nil=>simp [secN]
 | cons a l ih =>
  have h1:=xv99 a (h a (by simp)).1 (h a (by simp)).2
  have h2:=ih (fun x hx=>h x (by simp [hx]))
  have e:secN (a::l)=oneN a++secN l:=rfl
  rw [e,List.length_append,List.length_cons]
  omega
theorem xv206 (o:Option (List fn86)) (hl:(L o).length ≤ 1000) (ht:∀ x ∈ L o,x.A.length ≤ 13000∧x.B.length ≤ 13000) :
 (((L o).map pR).all okB=true∧∃ x,fn44 o=some (x,true)∧L x=secN ((L o).map pR))∨(((L o).map pR).all okB=false∧fn44 o=some (none,false)):=by
 simp only [fn44]
 have htm:∀ x ∈ (L o).map pR,x.A.length ≤ 13000∧x.B.length ≤ 13000:=fun x hx=>by
  obtain ⟨y,hy,rfl⟩:=List.mem_map.1 hx
  exact ht y hy
 have g:∀ (p:fn86) (s:Option (List UInt8)),∃ r:Option (List UInt8),L r=L s++oneN (pR p)∧(p.A.length ≤ 13000∧p.B.length ≤ 13000->(L s).length ≤ 130000000000000->fn75 s p=some r):=by
  intro p s
  by_cases hp:(p.A.length ≤ 13000∧p.B.length ≤ 13000)∧(L s).length ≤ 130000000000000
  ·obtain ⟨r,e1,e2⟩:=xv205 s p hp.1.1 hp.1.2 hp.2
   exact ⟨r,e2,fun _ _=>e1⟩
  ·exact ⟨some (L s++oneN (pR p)),rfl,fun h1 h2=>absurd ⟨h1,h2⟩ hp⟩
 have hex:∃ G:fn86->Option (List UInt8)->Option (List UInt8),∀ p s,L (G p s)=L s++oneN (pR p)∧(p.A.length ≤ 13000∧p.B.length ≤ 13000->(L s).length ≤ 130000000000000->fn75 s p=some (G p s)) :=
  ⟨fun p s=>(g p s).choose,fun p s=>(g p s).choose_spec⟩
 obtain ⟨G,hG⟩:=hex
 have:=xv30 (L o) (fn44_l0 o ((L o).length:Int)) (fun (s:Option (List UInt8)) i=>(s,i)) (fun (s:Option (List UInt8)) (a:fn86)=>if okB (pR a) then .inl (G a s) else (.inr (.inl a):Option (List UInt8) ⊕ (fn86 ⊕ Option (List UInt8)))) (fun s=>.inr s) (fun i s=>(L s).length ≤ 26100 * i)
  (fun s i hi hI=>by
   have hx:=ht _ (List.getElem_mem hi)
   simp only [fn44_l0,fn44_b0]
   rw [if_pos (by simp;omega),xv0,List.getElem?_eq_getElem hi]
   simp only [Option.bind_some]
   rw [xv28 _ hx.1 hx.2]
   simp only [Option.bind_some]
   have e:okB (pR (L o)[i])=xv8 (L o)[i].Id (L o)[i].N (L o)[i].A (L o)[i].B:=rfl
   rw [e]
   by_cases h:xv8 (L o)[i].Id (L o)[i].N (L o)[i].A (L o)[i].B=true
   ·rw [if_neg (by simp [h]),if_pos h,show fn75 s (⟨(L o)[i].Id,(L o)[i].N,(L o)[i].A,(L o)[i].B⟩:fn86)=some (G (L o)[i] s) from (hG _ s).2 hx (by omega),xv10 (by omega)]
    rfl
   ·rw [if_pos (by simpa using h),if_neg h];rfl)
  (fun s i hi s' hI hg=>by
   have hx:=ht _ (List.getElem_mem hi)
   split at hg
   ·simp only [Sum.inl.injEq] at hg
    rw [← hg,(hG _ _).1,List.length_append]
    have:=xv99 (pR (L o)[i]) hx.1 hx.2
    omega
   ·cases hg)
  (fun s hI=>by
   simp only [fn44_l0,fn44_b0]
   rw [if_neg (by simp)]) none (by simp [L])
 rw [this]
 rcases xv101 G (fun p s=>(hG p s).1) (L o) none with ⟨h1,x,h2,h3⟩|⟨h1,x,h2⟩
 ·left
  have h3:L x=secN ((L o).map pR):=by rw [h3];simp [L]
  refine ⟨h1,x,?_,h3⟩
  rw [h2]
  simp only [Option.bind_some]
  have:=xv153 _ htm
  rw [List.length_map] at this
  rw [decide_eq_true]
  rw [h3];omega
 ·right
  exact ⟨h1,by rw [h2];rfl⟩
def putN (l:List fn104):List UInt8:=vb (secN l).length++secN l
theorem xv70 (b:Option (List UInt8)) (o:Option (List fn86)) (hb:(L b).length ≤ 130000000000000) (hl:(L o).length ≤ 1000) (ht:∀ x ∈ L o,x.A.length ≤ 13000∧x.B.length ≤ 13000) :
 fn76 b o=if ((L o).map pR).all okB then some (some (L b++putN ((L o).map pR))) else some b:=by
 have hl2:lim=140737488300000:=rfl
 have htm:∀ x ∈ (L o).map pR,x.A.length ≤ 13000∧x.B.length ≤ 13000:=fun x hx=>by
  obtain ⟨y,hy,rfl⟩:=List.mem_map.1 hx
  exact ht y hy
 have hs:=xv153 _ htm
 rw [List.length_map] at hs
 simp only [fn76]
 rcases xv206 o hl ht with ⟨h1,x,h2,h3⟩|⟨h1,h2⟩
 ·rw [h1,h2,if_pos rfl]
  simp only [Option.bind_some]
  have hu:(u32 ((L x).length:Int)).toNat=(secN ((L o).map pR)).length:=by rw [h3,u32_toNat'];omega
  rw [if_neg (by simp),xv156 _ _ (by omega),hu,if_neg (by omega)]
  simp only [Option.bind_some]
  have h4:=xv114 4 (secN ((L o).map pR)).length (by have:(128:Nat) ^ 4=268435456:=(by decide);omega)
  rw [xv26 (y:=x) (by rw [h3];simp [room];omega) (by rw [h3];simp [room];omega),h3]
  simp [putN]
 ·rw [h1,h2]
  simp only [Option.bind_some]
  rw [xv51 b (by omega)]
  rfl
theorem xv176 (o:Option (List fn86)) (hl:(L o).length ≤ 1000) (ht:∀ x ∈ L o,x.A.length ≤ 13000∧x.B.length ≤ 13000) :
 fn63 o=some (if ((L o).map pR).all okB then ((putN ((L o).map pR)).length:Int) else 0):=by
 simp only [fn63]
 rw [xv70 none o (by simp [L]) hl ht]
 cases ((L o).map pR).all okB<;>rfl
end Go.Rv
namespace Go.Rv
abbrev kp (p:fn86):Nat:=p.Id.toNat
abbrev big:Nat:=70368744177664
theorem xv119 (x y:fn86):∃ c,fn50 x y=some c∧decide (c < 0)=decide (kp x < kp y):=by
 simp only [fn50,fn18,fn31,Option.bind_some,decide_true,Bool.not_true,Bool.false_eq_true,if_false]
 by_cases h:x.Id < y.Id
 ·have:=UInt8.lt_iff_toNat_lt.1 h
  refine ⟨-1,by simp [h],by simp [this]⟩
 ·have hn:¬ x.Id.toNat < y.Id.toNat:=fun q=>h (UInt8.lt_iff_toNat_lt.2 q)
  by_cases h2:x.Id > y.Id
  ·exact ⟨1,by simp [h,h2],by simp [hn]⟩
  ·exact ⟨0,by simp [h,h2],by simp [hn]⟩
theorem wnat {a b:Nat} (h:a + b ≤ 9223372036854775807):w64 ((a:Int) + (b:Int))=((a + b:Nat):Int):=by rw [xv2 (by omega) (by omega)];omega
theorem wnat1 {a:Nat} (h:a < 9223372036854775807):w64 ((a:Int) + 1)=((a + 1:Nat):Int):=wnat (b:=1) (by omega)
theorem wsub {a b:Nat} (h:b ≤ a) (ha:a ≤ 9223372036854775807):w64 ((a:Int) - (b:Int))=((a - b:Nat):Int):=by rw [xv2 (by omega) (by omega)];omega
theorem wsub1 {a:Nat} (h:1 ≤ a) (ha:a ≤ 9223372036854775807):w64 ((a:Int) - 1)=((a - 1:Nat):Int):=wsub (b:=1) h ha
theorem xv127 {i j:Nat} (h:i + j ≤ 9223372036854775807):w64 ((yv519 (u64 (w64 ((i:Int) + (j:Int)))) ((1:UInt64).toNat:Int)).toNat:Int)=(((i + j) / 2:Nat):Int):=by
 rw [wnat h]
 have e:(yv519 (u64 ((i + j:Nat):Int)) ((1:UInt64).toNat:Int)).toNat=(i + j) / 2:=by
  have h0:(u64 ((i + j:Nat):Int)).toNat=i + j:=by rw [u64_toNat'];omega
  have:((1:UInt64).toNat:Int)=((1:Nat):Int):=rfl
  rw [this]
  simp only [yv519,Int.toNat_natCast]
  have e2:(2:Int) ^ (min 1 64)=2:=rfl
  rw [h0,u64_toNat',e2]
  omega
 rw [e,xv6 (by omega)]
theorem xv16 {k n:Nat} (h:k < n):chk (decide (0 ≤ (k:Int)∧(k:Int) < ((n:Nat):Int)))=some ():=chk_d ⟨by omega,by omega⟩
theorem xv90 {step:Int × Int->Option ((Int × Int) ⊕ Int)} (f:Nat->Bool) (lo hi:Nat)
 (h1:∀ i j:Nat,lo ≤ i->i < j->j ≤ hi->step ((i:Int),(j:Int))=some (.inl (if f ((i + j) / 2)=true then ((((i + j) / 2 + 1:Nat):Int),(j:Int)) else ((i:Int),(((i + j) / 2:Nat):Int)))))
 (h2:∀ i:Nat,step ((i:Int),(i:Int))=some (.inr (i:Int))) (mono:∀ c d,lo ≤ c->c ≤ d->d < hi->f d=true->f c=true) :
 ∀ (m i j:Nat),j - i ≤ m->lo ≤ i->i ≤ j->j ≤ hi->(∀ c,lo ≤ c->c < i->f c=true)->(∀ c,j ≤ c->c < hi->f c=false) ->
 ∃ s,lo ≤ s∧s ≤ hi∧iter step ((i:Int),(j:Int))=some (s:Int)∧(∀ c,lo ≤ c->c < s->f c=true)∧(∀ c,s ≤ c->c < hi->f c=false):=by
 intro m
 induction m with
 | zero =>
  intro i j hm hlo hij hhi ha hb
  have:i=j:=by omega
  subst this
  exact ⟨i,hlo,hhi,by rw [yv757,h2],ha,hb⟩
 | succ m ih =>
  intro i j hm hlo hij hhi ha hb
  by_cases he:i=j
  ·subst he
   exact ⟨i,hlo,hhi,by rw [yv757,h2],ha,hb⟩
  ·rw [yv757,h1 i j hlo (by omega) hhi]
   by_cases hf:f ((i + j) / 2)=true
   ·rw [if_pos hf]
    refine ih _ _ (by omega) (by omega) (by omega) hhi (fun c h3 h4=>mono c _ h3 (by omega) (by omega) hf) hb
   ·rw [if_neg hf]
    have hf:f ((i + j) / 2)=false:=by simpa using hf
    refine ih _ _ (by omega) hlo (by omega) (by omega) ha (fun c h3 h4=>?_)
    cases hc:f c with
    | false=>rfl
    | true=>rw [mono _ c (by omega) h3 h4 hc] at hf;cases hf
theorem getP {α:Type} {P R:List α} {x:α} {i:Nat} (h:P.length=i):(P++x::R)[i]?=some x:=by subst h;simp
theorem setP {α:Type} {P R:List α} {x y:α} {i:Nat} (h:P.length=i):setR (P++x::R) i y=P++y::R:=by subst h;exact xv76 _ _ _ _
theorem swap2 {P R:List fn86} {x y:fn86} {i n:Nat} (h:P.length=i) (hn:i + 1 < n) :
 (P++x::y::R)[i]?=some x∧(P++x::y::R)[i + 1]?=some y∧setR (P++x::y::R) i y=P++y::y::R∧(P++y::y::R)[i + 1]?=some y∧setR (P++y::y::R) (i + 1) x=P++y::x::R ∧
 setR (P++x::y::R) (i + 1) x=P++x::x::R∧(P++x::x::R)[i]?=some x∧setR (P++x::x::R) i y=P++y::x::R:=by
 have e:∀ u v:fn86,P++u::v::R=(P++[u])++v::R:=fun u v=>by simp
 have l:∀ u:fn86,(P++[u]).length=i + 1:=fun u=>by simp [h]
 refine ⟨getP h,?_,setP h,?_,?_,?_,getP h,setP h⟩
 ·rw [e];exact getP (l _)
 ·rw [e];exact getP (l _)
 ·rw [e,setP (l _)];simp
 ·rw [e,setP (l _)];simp
theorem xv44 {r_:Nat->Int->Int->Int->List fn86->Option (List fn86)} (n s:Nat) (hn:n ≤ big):∀ (Y P:List fn86) (x:fn86) (R:List fn86) (k:Nat),P.length=k->k + Y.length + 1=s->(P++x::(Y++R)).length=n ->
 iter (fn11_l1 r_ n (s:Int)) ((k:Int),P++x::(Y++R))=some (P++(Y++x::R))
 | [],P,x,R,k,hk,hs,hl=>by
  rw [yv757]
  simp only [fn11_l1,fn11_b1]
  simp only [List.length_nil,List.length_append,List.length_cons] at hs hl
  have hb:n ≤ 70368744177664:=hn
  rw [wsub1 (by omega) (by omega),if_neg (by rw [decide_eq_true_eq];omega)]
  simp
 | y::Y,P,x,R,k,hk,hs,hl=>by
  simp only [List.length_append,List.length_cons] at hs hl
  have hb:n ≤ 70368744177664:=hn
  obtain ⟨g1,g2,s1,g3,s2,_⟩:=swap2 (x:=x) (y:=y) (R:=Y++R) (n:=n) hk (by omega)
  rw [yv757]
  simp only [fn11_l1,fn11_b1]
  rw [wsub1 (by omega) (by omega),if_pos (by rw [decide_eq_true_eq];omega),wnat1 (by omega)]
  simp only [List.cons_append,xv16 (show k < n by omega),xv16 (show k + 1 < n by omega),xv0,Int.toNat_natCast,g1,g2,s1,g3,s2,Option.bind_some]
  have:=xv44 (r_:=r_) n s hn Y (P++[y]) x R (k + 1) (by simp [hk]) (by omega) (by simp;omega)
  simpa using this
theorem xv67 {r_:Nat->Int->Int->Int->List fn86->Option (List fn86)} (n s:Nat) (hn:n ≤ big):∀ (m:Nat) (X P:List fn86) (y:fn86) (R:List fn86),X.length=m->P.length=s->(P++(X++y::R)).length=n ->
 iter (fn11_l3 r_ n (s:Int)) (((s + m:Nat):Int),P++(X++y::R))=some (P++(y::(X++R)))
 | 0,X,P,y,R,hm,hs,hl=>by
  have:X=[]:=List.length_eq_zero_iff.1 hm
  subst this
  rw [yv757]
  simp only [fn11_l3,fn11_b3]
  rw [if_neg (by rw [decide_eq_true_eq];omega)]
  simp
 | m + 1,X,P,y,R,hm,hs,hl=>by
  obtain ⟨X,x,rfl,hm'⟩:=xv112 hm
  have hb:n ≤ 70368744177664:=hn
  simp only [List.length_append,List.length_cons,List.length_nil] at hl
  have e:P++(X++[x]++y::R)=(P++X)++x::y::R:=by simp
  obtain ⟨g1,g2,s1,g3,s2,s3,g4,s4⟩:=swap2 (P:=P++X) (x:=x) (y:=y) (R:=R) (i:=s + m) (n:=n) (by simp;omega) (by omega)
  rw [yv757]
  simp only [fn11_l3,fn11_b3]
  rw [if_pos (by rw [decide_eq_true_eq];omega),show ((s + (m + 1):Nat):Int)=((s + m + 1:Nat):Int) by omega,wsub1 (by omega) (by omega),show s + m + 1 - 1=s + m by omega,e]
  simp only [xv16 (show s + m < n by omega),xv16 (show s + m + 1 < n by omega),xv0,Int.toNat_natCast,g1,g2,s3,g4,s4,Option.bind_some]
  have:=xv67 (r_:=r_) n s hn m X P y (x::R) hm' hs (by simp;omega)
  simpa using this
theorem xv48 (n a b k:Nat) (hn:n ≤ big):∀ (X Y U V P M R:List fn86) (i:Nat),P.length=a->(P++(U++(X++M))).length=b->U.length=i->V.length=i->X.length=Y.length->i + X.length=k->(P++(U++(X++(M++(V++(Y++R)))))).length=n ->
 iter (fn9_l0 n (a:Int) (b:Int) (k:Int)) ((i:Int),P++(U++(X++(M++(V++(Y++R))))))=some (P++(U++(Y++(M++(V++(X++R))))))
 | [],[],U,V,P,M,R,i,ha,hb,hu,hv,hxy,hk,hl=>by
  rw [yv757]
  simp only [fn9_l0,fn9_b0]
  simp only [List.length_nil] at hk
  rw [if_neg (by rw [decide_eq_true_eq];omega)]
 | [],_::_,_,_,_,_,_,_,_,_,_,_,hxy,_,_=>by simp at hxy
 | _::_,[],_,_,_,_,_,_,_,_,_,_,hxy,_,_=>by simp at hxy
 | x::X,y::Y,U,V,P,M,R,i,ha,hb,hu,hv,hxy,hk,hl=>by
  simp only [List.length_append,List.length_cons] at hb hxy hk hl
  have hbig:n ≤ 70368744177664:=hn
  have e1:P++(U++(x::X++(M++(V++(y::Y++R)))))=(P++U)++x::(X++(M++(V++(y::(Y++R))))):=by simp
  have e2:P++(U++(x::X++(M++(V++(y::Y++R)))))=(P++(U++(x::X++(M++V))))++y::(Y++R):=by simp
  have e3:(P++U)++y::(X++(M++(V++(y::(Y++R)))))=(P++(U++(y::X++(M++V))))++y::(Y++R):=by simp
  have p1:(P++U).length=a + i:=by simp [ha,hu]
  have p2:(P++(U++(x::X++(M++V)))).length=b + i:=by simp;omega
  have p3:(P++(U++(y::X++(M++V)))).length=b + i:=by simp;omega
  rw [yv757]
  simp only [fn9_l0,fn9_b0]
  rw [if_pos (by rw [decide_eq_true_eq];omega),wnat (a:=a) (b:=i) (by omega),wnat (a:=b) (b:=i) (by omega),wnat1 (by omega)]
  have g1:(P++(U++(x::X++(M++(V++(y::Y++R))))))[a + i]?=some x:=by rw [e1];exact getP p1
  have g2:(P++(U++(x::X++(M++(V++(y::Y++R))))))[b + i]?=some y:=by rw [e2];exact getP p2
  have s1:setR (P++(U++(x::X++(M++(V++(y::Y++R)))))) (a + i) y=(P++U)++y::(X++(M++(V++(y::(Y++R))))):=by rw [e1];exact setP p1
  have g3:((P++U)++y::(X++(M++(V++(y::(Y++R))))))[b + i]?=some y:=by rw [e3];exact getP p3
  have s2:setR ((P++U)++y::(X++(M++(V++(y::(Y++R)))))) (b + i) x=(P++(U++(y::X++(M++V))))++x::(Y++R):=by rw [e3];exact setP p3
  simp only [xv16 (show a + i < n by omega),xv16 (show b + i < n by omega),xv0,Int.toNat_natCast,g1,g2,s1,g3,s2,Option.bind_some]
  have:=xv48 n a b k hn X Y (U++[y]) (V++[x]) P M R (i + 1) ha (by simp;omega) (by simp [hu]) (by simp [hv]) (by omega) (by omega) (by simp;omega)
  simpa using this
theorem xv61 (n:Nat) (hn:n ≤ big) {P X M Y R:List fn86} (hxy:X.length=Y.length) (hl:(P++(X++(M++(Y++R)))).length=n) :
 fn9 n (P.length:Int) ((P.length + X.length + M.length:Nat):Int) (X.length:Int) (P++(X++(M++(Y++R))))=some (P++(Y++(M++(X++R)))):=by
 have:=xv48 n P.length (P.length + X.length + M.length) X.length hn X Y [] [] P M R 0 rfl (by simp;omega) rfl rfl hxy (by omega) (by simpa using hl)
 simp only [List.nil_append] at this
 simp only [fn9]
 rw [show ((0:Int))=((0:Nat):Int) from rfl,this]
 rfl
end Go.Rv
namespace Go.Rv
theorem xv181 (n m:Nat) (hn:n ≤ big):∀ (t:Nat) (U V P R:List fn86),U.length + V.length ≤ t->U ≠ []->V ≠ []->P.length + U.length=m->(P++(U++(V++R))).length=n ->
 ∃ i P' X Y R',iter (fn12_l0 n (m:Int)) ((U.length:Int),(V.length:Int),P++(U++(V++R)))=some (((i:Nat):Int),P'++(X++(Y++R')))∧X.length=i∧Y.length=i∧P'.length + i=m∧P'++(Y++(X++R'))=P++(V++(U++R)):=by
 intro t
 induction t with
 | zero=>intro U V P R ht hu;exact absurd (List.length_eq_zero_iff.1 (by omega)) hu
 | succ t ih =>
  intro U V P R ht hu hv hm hl
  have hb:n ≤ 70368744177664:=hn
  have u1:=List.length_pos_iff.2 hu
  have v1:=List.length_pos_iff.2 hv
  have hl':=hl
  simp only [List.length_append] at hl'
  rw [yv757]
  simp only [fn12_l0,fn12_b0]
  by_cases he:U.length=V.length
  ·rw [if_neg (by simp [he])]
   exact ⟨U.length,P,U,V,R,rfl,rfl,he.symm,hm,rfl⟩
  ·rw [if_pos (by simp;omega)]
   by_cases hg:U.length > V.length
   ·rw [if_pos (by rw [decide_eq_true_eq];omega)]
    obtain ⟨U1,U2,rfl,h1⟩:∃ U1 U2,U=U1++U2∧U1.length=V.length:=⟨U.take V.length,U.drop V.length,(List.take_append_drop _ _).symm,by rw [List.length_take];omega⟩
    simp only [List.length_append] at hm hg ht hl' u1
    have sw:=xv61 n hn (P:=P) (X:=U1) (M:=U2) (Y:=V) (R:=R) h1 (by simp only [List.length_append];omega)
    have lu:(U1++U2).length=U1.length + U2.length:=List.length_append
    rw [wsub (a:=m) (b:=(U1++U2).length) (by omega) (by omega),wsub (a:=(U1++U2).length) (b:=V.length) (by omega) (by omega),show m - (U1++U2).length=P.length by omega,show (U1++U2).length - V.length=U2.length by omega]
    rw [show P.length + U1.length + U2.length=m by omega,h1] at sw
    rw [List.append_assoc U1 U2,sw]
    simp only [Option.bind_some]
    have h2:=ih U2 U1 (P++V) R (by omega) (by intro e;rw [e] at hg;simp at hg;omega) (by intro e;rw [e] at h1;simp at h1;omega) (by simp;omega) (by simp;omega)
    obtain ⟨i,P',X,Y,R',q1,q2,q3,q4,q5⟩:=h2
    rw [← h1]
    simp only [List.append_assoc] at q1 q5 ⊢
    exact ⟨i,P',X,Y,R',q1,q2,q3,q4,q5⟩
   ·rw [if_neg (by rw [decide_eq_true_eq];omega)]
    obtain ⟨V1,V2,rfl,h1⟩:∃ V1 V2,V=V1++V2∧V2.length=U.length:=⟨V.take (V.length - U.length),V.drop (V.length - U.length),(List.take_append_drop _ _).symm,by rw [List.length_drop];omega⟩
    simp only [List.length_append] at hm hg ht hl' v1 he
    have sw:=xv61 n hn (P:=P) (X:=U) (M:=V1) (Y:=V2) (R:=R) h1.symm (by simp only [List.length_append];omega)
    have lv:(V1++V2).length=V1.length + V2.length:=List.length_append
    rw [wnat (a:=m) (b:=(V1++V2).length) (by omega),wsub (a:=m) (b:=U.length) (by omega) (by omega),wsub (a:=m + (V1++V2).length) (b:=U.length) (by omega) (by omega),wsub (a:=(V1++V2).length) (b:=U.length) (by omega) (by omega),show m - U.length=P.length by omega,show m + (V1++V2).length - U.length=P.length + U.length + V1.length by omega,show (V1++V2).length - U.length=V1.length by omega]
    rw [List.append_assoc V1 V2,sw]
    simp only [Option.bind_some]
    have h2:=ih V2 V1 P (U++R) (by omega) (by intro e;rw [e] at h1;simp at h1;omega) (by intro e;rw [e] at he hg;simp at he hg;omega) (by omega) (by simp;omega)
    obtain ⟨i,P',X,Y,R',q1,q2,q3,q4,q5⟩:=h2
    rw [h1] at q1
    exact ⟨i,P',X,Y,R',q1,q2,q3,q4,by rw [q5];simp⟩
theorem xv225 (n:Nat) (hn:n ≤ big) {P U V R:List fn86} (hu:U ≠ []) (hv:V ≠ []) (hl:(P++(U++(V++R))).length=n) :
 fn12 n (P.length:Int) ((P.length + U.length:Nat):Int) ((P.length + U.length + V.length:Nat):Int) (P++(U++(V++R)))=some (P++(V++(U++R))):=by
 have hb:n ≤ 70368744177664:=hn
 have hl':=hl
 simp only [List.length_append] at hl'
 obtain ⟨i,P',X,Y,R',q1,q2,q3,q4,q5⟩:=xv181 n (P.length + U.length) hn (U.length + V.length) U V P R (Nat.le_refl _) hu hv rfl hl
 simp only [fn12]
 rw [wsub (by omega) (by omega),wsub (by omega) (by omega),show P.length + U.length - P.length=U.length by omega,show P.length + U.length + V.length - (P.length + U.length)=V.length by omega,q1]
 simp only [Option.bind_some]
 have l5:=congrArg List.length q5
 simp only [List.length_append] at l5
 have sw:=xv61 n hn (P:=P') (X:=X) (M:=[]) (Y:=Y) (R:=R') (by omega) (by simp only [List.length_append,List.nil_append,List.length_nil];omega)
 simp only [List.nil_append,List.length_nil,Nat.add_zero] at sw
 rw [wsub (by omega) (by omega),show P.length + U.length - i=P'.length by omega,← q4,← q2,sw]
 simp only [Option.bind_some,q5]
theorem xv23 {P Z R:List fn86} (h:Srt kp Z) {c d:Nat} {u v:fn86} (h1:P.length ≤ c) (h2:c ≤ d) (h3:d < P.length + Z.length) (hu:(P++(Z++R))[c]?=some u) (hv:(P++(Z++R))[d]?=some v):kp u ≤ kp v:=by
 rw [List.getElem?_append_right (by omega),List.getElem?_append_left (by omega)] at hu hv
 rcases Nat.lt_or_ge (c - P.length) (d - P.length) with hlt|hge
 ·obtain ⟨a1,rfl⟩:=List.getElem?_eq_some_iff.1 hu
  obtain ⟨a2,rfl⟩:=List.getElem?_eq_some_iff.1 hv
  exact List.pairwise_iff_getElem.1 h _ _ a1 a2 hlt
 ·have:c=d:=by omega
  subst this
  rw [hu] at hv;cases hv;exact Nat.le_refl _
theorem xv22 {P Z R:List fn86} {u:fn86} (h:u ∈ Z):∃ c,P.length ≤ c∧c < P.length + Z.length∧(P++(Z++R))[c]?=some u:=by
 obtain ⟨i,hi⟩:=List.getElem?_of_mem h
 have:=(List.getElem?_eq_some_iff.1 hi).1
 exact ⟨P.length + i,by omega,by omega,by rw [List.getElem?_append_right (by omega),List.getElem?_append_left (by omega)];simpa using hi⟩
theorem xv1 {D:List fn86} {c:Nat} (h:c < D.length):∃ u,D[c]?=some u:=⟨D[c],by simp [h]⟩
def ltB (D:List fn86) (c d:Nat):Bool:=match D[c]?,D[d]? with
 | some u,some v=>decide (kp u < kp v)
 | _,_=>false
theorem xv14 {D:List fn86} {c d:Nat} {u v:fn86} (h1:D[c]?=some u) (h2:D[d]?=some v):ltB D c d=decide (kp u < kp v):=by simp only [ltB,h1,h2]
theorem xv86 {Y:List fn86} {x:fn86} (h:Srt kp Y) (hx:∀ y ∈ Y,kp y ≤ kp x):Srt kp (Y++[x]):=xv78 h (List.pairwise_singleton _ _) (fun y hy z hz=>by rw [List.mem_singleton.1 hz];exact hx y hy)
theorem xv85 {Y:List fn86} {x:fn86} (h:Srt kp Y) (hx:∀ y ∈ Y,kp x ≤ kp y):Srt kp ([x]++Y):=xv78 (List.pairwise_singleton _ _) h (fun z hz y hy=>by rw [List.mem_singleton.1 hz];exact hx y hy)
theorem c4_eq (r_:Nat->Int->Int->Int->List fn86->Option (List fn86)) (n:Nat) (a m b mid nn st r:Int) (D:List fn86) :
 fn11_c4 r_ n a m b mid nn st r D (fun x=>some x) (fun x=>some x)=(iter (fn11_l5 r_ n (w64 (nn - 1)) D) (st,r)).bind fun s =>
  (if s < m∧m < w64 (nn - s) then fn12 n s m (w64 (nn - s)) D else some D).bind fun D1=>(if a < s∧s < mid then r_ n a s mid D1 else some D1).bind fun D2=>if mid < w64 (nn - s)∧w64 (nn - s) < b then r_ n mid (w64 (nn - s)) b D2 else some D2:=by
 have h10:∀ (x112 x113 x114:Int) (D:List fn86),(fn11_c9 r_ n x112 x113 x114 D (fun x=>some x) (some D))=if x113 < x114∧x114 < x112 then r_ n x113 x114 x112 D else some D:=by
  intro x112 x113 x114 D
  simp only [fn11_c9,fn11_c10]
  by_cases h1:x113 < x114<;>by_cases h2:x114 < x112<;>simp [h1,h2]
 have h7:∀ (s e:Int) (D:List fn86),fn11_c7 r_ n a b mid s e D (fun x=>some x) (fun x=>some x)=(if a < s∧s < mid then r_ n a s mid D else some D).bind fun D2=>if mid < e∧e < b then r_ n mid e b D2 else some D2:=by
  intro s e D
  simp only [fn11_c7,fn11_c8,h10]
  by_cases h1:a < s<;>by_cases h2:s < mid<;>simp [h1,h2]
 simp only [fn11_c4,fn11_c6,h7]
 congr 1
 funext s
 by_cases h1:s < m<;>by_cases h2:m < w64 (nn - s)<;>simp [h1,h2]
end Go.Rv
namespace Go.Rv
theorem xv213 (f n:Nat) (hn:n ≤ big) {P Y R:List fn86} {x:fn86} (hs:Srt kp Y) (hl:(P++(x::(Y++R))).length=n) :
 ∃ S,fn11 (f + 1) n (P.length:Int) ((P.length + 1:Nat):Int) ((P.length + 1 + Y.length:Nat):Int) (P++(x::(Y++R)))=some (P++(S++R))∧Srt kp S∧SE kp ([x]++Y) S:=by
 have hb:n ≤ 70368744177664:=hn
 have hl':=hl
 simp only [List.length_append,List.length_cons] at hl'
 obtain ⟨D,hD⟩:∃ D,D=P++(x::(Y++R)):=⟨_,rfl⟩
 have hD2:D=(P++[x])++(Y++R):=by rw [hD];simp
 have hDl:D.length=n:=by rw [hD];exact hl
 have ga:D[P.length]?=some x:=by rw [hD];exact getP rfl
 have lp:(P++[x]).length=P.length + 1:=by simp
 simp only [fn11,fn11_body]
 rw [wsub (by omega) (by omega),if_pos (by rw [decide_eq_true_eq];omega)]
 obtain ⟨s,s1,s2,s3,s4,s5⟩:=xv90 (step:=fn11_l0 (fn11 f) n (P.length:Int) D) (fun c=>ltB D c P.length) (P.length + 1) (P.length + 1 + Y.length) (fun i j h1 h2 h3=>by
  obtain ⟨u,hu⟩:=xv1 (D:=D) (c:=(i + j) / 2) (by omega)
  obtain ⟨c,hc1,hc2⟩:=xv119 u x
  simp only [fn11_l0,fn11_b0]
  rw [if_pos (by rw [decide_eq_true_eq];omega),xv127 (by omega),wnat1 (by omega)]
  simp only [xv16 (show (i + j) / 2 < n by omega),xv16 (show P.length < n by omega),xv0,hu,ga,Option.bind_some]
  rw [show fn50 ⟨u.Id,u.N,u.A,u.B⟩ ⟨x.Id,x.N,x.A,x.B⟩=some c from hc1]
  simp only [Option.bind_some,hc2,xv14 hu ga]
  by_cases hq:kp u < kp x<;>simp [hq]) (fun i=>by
  simp only [fn11_l0,fn11_b0]
  rw [if_neg (by rw [decide_eq_true_eq];omega)]) (fun c d h1 h2 h3 h4=>by
  obtain ⟨u,hu⟩:=xv1 (D:=D) (c:=c) (by omega)
  obtain ⟨v,hv⟩:=xv1 (D:=D) (c:=d) (by omega)
  rw [xv14 hv ga,decide_eq_true_eq] at h4
  rw [xv14 hu ga,decide_eq_true_eq]
  rw [hD2] at hu hv
  have:=xv23 hs (by omega) h2 (by omega) hu hv
  omega) _ _ _ (Nat.le_refl _) (Nat.le_refl _) (by omega) (Nat.le_refl _) (fun c h1 h2=>by omega) (fun c h1 h2=>by omega)
 obtain ⟨Y1,Y2,rfl,hy⟩:∃ Y1 Y2,Y=Y1++Y2∧Y1.length=s - (P.length + 1):=⟨Y.take (s - (P.length + 1)),Y.drop (s - (P.length + 1)),(List.take_append_drop _ _).symm,by rw [List.length_take];omega⟩
 have ly:(Y1++Y2).length=Y1.length + Y2.length:=List.length_append
 have lt1:∀ y ∈ Y1,kp y < kp x:=fun y hy'=>by
  obtain ⟨c,c1,c2,c3⟩:=xv22 (P:=P++[x]) (R:=Y2++R) hy'
  have e:D=(P++[x])++(Y1++(Y2++R)):=by rw [hD2];simp
  rw [← e] at c3
  have:=s4 c (by omega) (by omega)
  rw [xv14 c3 ga,decide_eq_true_eq] at this
  exact this
 have ge2:∀ y ∈ Y2,kp x ≤ kp y:=fun y hy'=>by
  obtain ⟨c,c1,c2,c3⟩:=xv22 (P:=P++[x]++Y1) (R:=R) hy'
  have e:D=(P++[x]++Y1)++(Y2++R):=by rw [hD2];simp
  rw [← e] at c3
  simp only [List.length_append,List.length_cons,List.length_nil] at c1 c2
  have:=s5 c (by omega) (by omega)
  rw [xv14 c3 ga,decide_eq_false_iff_not] at this
  omega
 rw [← hD,s3]
 simp only [Option.bind_some]
 have rl:=xv44 (r_:=fn11 f) n s hn Y1 P x (Y2++R) P.length rfl (by omega) (by simp;omega)
 rw [hD,List.append_assoc Y1 Y2,rl]
 obtain ⟨j1,j2⟩:=xv62 (k:=kp) (X1:=[]) (X2:=[x]) (Y1:=Y1) (Y2:=Y2) (S1:=Y1) (S2:=[x]++Y2) (List.pairwise_singleton _ _) hs (fun y hy' z hz=>by rw [List.mem_singleton.1 hz];exact lt1 y hy') (fun _ h=>by cases h) hs.left (xv85 hs.right ge2) (SE.refl _) (SE.refl _)
 exact ⟨Y1++([x]++Y2),by simp,j1,by simpa using j2⟩
theorem xv186 (f n:Nat) (hn:n ≤ big) {P X R:List fn86} {y:fn86} (hx:2 ≤ X.length) (hs:Srt kp X) (hl:(P++(X++(y::R))).length=n) :
 ∃ S,fn11 (f + 1) n (P.length:Int) ((P.length + X.length:Nat):Int) ((P.length + X.length + 1:Nat):Int) (P++(X++(y::R)))=some (P++(S++R))∧Srt kp S∧SE kp (X++[y]) S:=by
 have hb:n ≤ 70368744177664:=hn
 have hl':=hl
 simp only [List.length_append,List.length_cons] at hl'
 obtain ⟨D,hD⟩:∃ D,D=P++(X++(y::R)):=⟨_,rfl⟩
 have hDl:D.length=n:=by rw [hD];exact hl
 have ga:D[P.length + X.length]?=some y:=by rw [hD,← List.append_assoc];exact getP (by simp)
 simp only [fn11,fn11_body]
 rw [wsub (by omega) (by omega),if_neg (by rw [decide_eq_true_eq];omega),wsub (by omega) (by omega),if_pos (by rw [decide_eq_true_eq];omega)]
 obtain ⟨s,s1,s2,s3,s4,s5⟩:=xv90 (step:=fn11_l2 (fn11 f) n ((P.length + X.length:Nat):Int) D) (fun c=>!ltB D (P.length + X.length) c) P.length (P.length + X.length) (fun i j h1 h2 h3=>by
  obtain ⟨u,hu⟩:=xv1 (D:=D) (c:=(i + j) / 2) (by omega)
  obtain ⟨c,hc1,hc2⟩:=xv119 y u
  simp only [fn11_l2,fn11_b2]
  rw [if_pos (by rw [decide_eq_true_eq];omega),xv127 (by omega),wnat1 (by omega)]
  simp only [xv16 (show (i + j) / 2 < n by omega),xv16 (show P.length + X.length < n by omega),xv0,hu,ga,Option.bind_some]
  rw [show fn50 ⟨y.Id,y.N,y.A,y.B⟩ ⟨u.Id,u.N,u.A,u.B⟩=some c from hc1]
  simp only [Option.bind_some,hc2,xv14 ga hu]
  by_cases hq:kp y < kp u<;>simp [hq]) (fun i=>by
  simp only [fn11_l2,fn11_b2]
  rw [if_neg (by rw [decide_eq_true_eq];omega)]) (fun c d h1 h2 h3 h4=>by
  obtain ⟨u,hu⟩:=xv1 (D:=D) (c:=c) (by omega)
  obtain ⟨v,hv⟩:=xv1 (D:=D) (c:=d) (by omega)
  rw [xv14 ga hv,Bool.not_eq_true',decide_eq_false_iff_not] at h4
  rw [xv14 ga hu,Bool.not_eq_true',decide_eq_false_iff_not]
  rw [hD] at hu hv
  have:=xv23 hs (by omega) h2 (by omega) hu hv
  omega) _ _ _ (Nat.le_refl _) (Nat.le_refl _) (by omega) (Nat.le_refl _) (fun c h1 h2=>by omega) (fun c h1 h2=>by omega)
 obtain ⟨X1,X2,rfl,hxl⟩:∃ X1 X2,X=X1++X2∧X1.length=s - P.length:=⟨X.take (s - P.length),X.drop (s - P.length),(List.take_append_drop _ _).symm,by rw [List.length_take];omega⟩
 have lx:(X1++X2).length=X1.length + X2.length:=List.length_append
 have le1:∀ x ∈ X1,kp x ≤ kp y:=fun x hx'=>by
  obtain ⟨c,c1,c2,c3⟩:=xv22 (P:=P) (R:=X2++(y::R)) hx'
  have e:D=P++(X1++(X2++(y::R))):=by rw [hD];simp
  rw [← e] at c3
  have:=s4 c (by omega) (by omega)
  rw [xv14 ga c3,Bool.not_eq_true',decide_eq_false_iff_not] at this
  omega
 have gt2:∀ x ∈ X2,kp y < kp x:=fun x hx'=>by
  obtain ⟨c,c1,c2,c3⟩:=xv22 (P:=P++X1) (R:=y::R) hx'
  have e:D=(P++X1)++(X2++(y::R)):=by rw [hD];simp
  rw [← e] at c3
  simp only [List.length_append] at c1 c2
  have:=s5 c (by omega) (by omega)
  rw [xv14 ga c3,Bool.not_eq_false',decide_eq_true_eq] at this
  exact this
 rw [← hD,s3]
 simp only [Option.bind_some]
 have ll:=xv67 (r_:=fn11 f) n s hn X2.length X2 (P++X1) y R rfl (by simp;omega) (by simp;omega)
 rw [show s + X2.length=P.length + (X1++X2).length by omega] at ll
 have e:D=(P++X1)++(X2++(y::R)):=by rw [hD];simp
 rw [e,ll]
 obtain ⟨j1,j2⟩:=xv62 (k:=kp) (X1:=X1) (X2:=X2) (Y1:=[y]) (Y2:=[]) (S1:=X1++[y]) (S2:=X2) hs (List.pairwise_singleton _ _) (fun z hz x hx'=>by rw [List.mem_singleton.1 hz];exact gt2 x hx') (fun _ _ _ h=>by cases h) (xv86 hs.left le1) hs.right (SE.refl _) (by simpa using SE.refl X2)
 exact ⟨X1++[y]++X2,by simp,j1,by simpa using j2⟩
end Go.Rv
set_option maxHeartbeats 4000000
namespace Go.Rv
theorem xv212 (n:Nat) (hn:n ≤ big):∀ (f:Nat) (P X Y R:List fn86),X ≠ []->Y ≠ []->X.length + Y.length ≤ 2 ^ f->Srt kp X->Srt kp Y->(P++(X++(Y++R))).length=n ->
 ∃ S,fn11 (f + 1) n (P.length:Int) ((P.length + X.length:Nat):Int) ((P.length + X.length + Y.length:Nat):Int) (P++(X++(Y++R)))=some (P++(S++R))∧Srt kp S∧SE kp (X++Y) S:=by
 intro f
 induction f with
 | zero =>
  intro P X Y R hx hy hf
  have:=List.length_pos_iff.2 hx
  have:=List.length_pos_iff.2 hy
  omega
 | succ f ih =>
  intro P X Y R hx hy hf sX sY hl
  have hb:n ≤ 70368744177664:=hn
  have hl':=hl
  simp only [List.length_append] at hl'
  have xp:=List.length_pos_iff.2 hx
  have yp:=List.length_pos_iff.2 hy
  by_cases hx1:X.length=1
  ·obtain ⟨x,rfl⟩:=List.length_eq_one_iff.1 hx1
   simpa using xv213 (f + 1) n hn (P:=P) (R:=R) (x:=x) sY (by simpa using hl)
  by_cases hy1:Y.length=1
  ·obtain ⟨y,rfl⟩:=List.length_eq_one_iff.1 hy1
   simpa using xv186 (f + 1) n hn (P:=P) (R:=R) (y:=y) (by omega) sX (by simpa using hl)
  obtain ⟨D,hD⟩:∃ D,D=P++(X++(Y++R)):=⟨_,rfl⟩
  have hD2:D=(P++X)++(Y++R):=by rw [hD];simp
  have hDl:D.length=n:=by rw [hD];exact hl
  obtain ⟨a,ha⟩:∃ a,a=P.length:=⟨_,rfl⟩
  obtain ⟨m,hm⟩:∃ m,m=a + X.length:=⟨_,rfl⟩
  obtain ⟨b,hbb⟩:∃ b,b=m + Y.length:=⟨_,rfl⟩
  obtain ⟨mid,hmid⟩:∃ mid,mid=(a + b) / 2:=⟨_,rfl⟩
  have lpx:(P++X).length=m:=by simp only [List.length_append];omega
  have hp:2 ^ (f + 1)=2 * 2 ^ f:=by rw [Nat.pow_succ];omega
  rw [hp] at hf
  have hsz:∀ k,2 * k ≤ X.length + Y.length + 1->k ≤ 2 ^ f:=fun k hk=>by omega
  rw [← ha,show a + X.length=m from hm.symm,show m + Y.length=b from hbb.symm,← hD]
  have search:∀ lo hi:Nat,lo ≤ hi->hi ≤ m->(∀ c,lo ≤ c->c < hi->m ≤ mid + m - 1 - c∧mid + m - 1 - c < b∧a ≤ c)->(lo=a∨mid + m - lo=b)->(hi=m∨hi=mid) ->
   ∃ s,lo ≤ s∧s ≤ hi∧iter (fn11_l5 (fn11 (f + 1)) n ((mid + m - 1:Nat):Int) D) ((lo:Int),(hi:Int))=some (s:Int) ∧
    (∀ c,lo ≤ c->c < s->ltB D (mid + m - 1 - c) c=false)∧(∀ c,s ≤ c->c < hi->ltB D (mid + m - 1 - c) c=true):=by
   intro lo hi h1 h2 h3 _ _
   obtain ⟨s,s1,s2,s3,s4,s5⟩:=xv90 (step:=fn11_l5 (fn11 (f + 1)) n ((mid + m - 1:Nat):Int) D) (fun c=>!ltB D (mid + m - 1 - c) c) lo hi (fun i j q1 q2 q3=>by
    obtain ⟨r1,r2,r3⟩:=h3 ((i + j) / 2) (by omega) (by omega)
    obtain ⟨u,hu⟩:=xv1 (D:=D) (c:=mid + m - 1 - (i + j) / 2) (by omega)
    obtain ⟨v,hv⟩:=xv1 (D:=D) (c:=(i + j) / 2) (by omega)
    obtain ⟨c,hc1,hc2⟩:=xv119 u v
    simp only [fn11_l5,fn11_b5]
    rw [if_pos (by rw [decide_eq_true_eq];omega),xv127 (by omega),wnat1 (by omega),wsub (a:=mid + m - 1) (b:=(i + j) / 2) (by omega) (by omega)]
    simp only [xv16 (show (i + j) / 2 < n by omega),xv16 (show mid + m - 1 - (i + j) / 2 < n by omega),xv0,hu,hv,Option.bind_some]
    rw [show fn50 ⟨u.Id,u.N,u.A,u.B⟩ ⟨v.Id,v.N,v.A,v.B⟩=some c from hc1]
    simp only [Option.bind_some,hc2,xv14 hu hv]
    by_cases hq:kp u < kp v<;>simp [hq]) (fun i=>by
    simp only [fn11_l5,fn11_b5]
    rw [if_neg (by rw [decide_eq_true_eq];omega)]) (fun c d q1 q2 q3 q4=>by
    obtain ⟨r1,r2,r3⟩:=h3 c q1 (by omega)
    obtain ⟨t1,t2,t3⟩:=h3 d (by omega) q3
    obtain ⟨u,hu⟩:=xv1 (D:=D) (c:=mid + m - 1 - c) (by omega)
    obtain ⟨v,hv⟩:=xv1 (D:=D) (c:=c) (by omega)
    obtain ⟨u',hu'⟩:=xv1 (D:=D) (c:=mid + m - 1 - d) (by omega)
    obtain ⟨v',hv'⟩:=xv1 (D:=D) (c:=d) (by omega)
    rw [xv14 hu' hv',Bool.not_eq_true',decide_eq_false_iff_not] at q4
    rw [xv14 hu hv,Bool.not_eq_true',decide_eq_false_iff_not]
    have k1:=hv;have k2:=hv'
    rw [hD] at k1 k2
    have o1:=xv23 sX (by omega) q2 (by omega) k1 k2
    have k3:=hu;have k4:=hu'
    rw [hD2] at k3 k4
    have o2:=xv23 sY (by omega) (show mid + m - 1 - d ≤ mid + m - 1 - c by omega) (by omega) k4 k3
    omega) _ _ _ (Nat.le_refl _) (Nat.le_refl _) h1 (Nat.le_refl _) (fun c h1 h2=>by omega) (fun c h1 h2=>by omega)
   exact ⟨s,s1,s2,s3,fun c h1 h2=>by simpa using s4 c h1 h2,fun c h1 h2=>by simpa using s5 c h1 h2⟩
  have behind:∀ s lo hi:Nat,lo ≤ s->s ≤ hi->hi ≤ m->a ≤ lo->s ≤ mid->mid + m - s ≤ b->(lo=a∨mid + m - lo=b)->(hi=m∨hi=mid)->(∀ c,lo ≤ c->c < hi->m ≤ mid + m - 1 - c∧mid + m - 1 - c < b∧a ≤ c) ->
   (∀ c,lo ≤ c->c < s->ltB D (mid + m - 1 - c) c=false)->(∀ c,s ≤ c->c < hi->ltB D (mid + m - 1 - c) c=true) ->
   ∃ S,((if (s:Int) < (m:Int)∧(m:Int) < w64 (((mid + m:Nat):Int) - (s:Int)) then fn12 n s m (w64 (((mid + m:Nat):Int) - (s:Int))) D else some D).bind fun D1=>(if (a:Int) < (s:Int)∧(s:Int) < (mid:Int) then fn11 (f + 1) n a s mid D1 else some D1).bind fun D2 =>
    if (mid:Int) < w64 (((mid + m:Nat):Int) - (s:Int))∧w64 (((mid + m:Nat):Int) - (s:Int)) < (b:Int) then fn11 (f + 1) n mid (w64 (((mid + m:Nat):Int) - (s:Int))) b D2 else some D2)=some (P++(S++R))∧Srt kp S∧SE kp (X++Y) S:=by
   intro s lo hi h1 h2 h3 h4 h5 h6 h7 h8 hr hf1 hf2
   rw [wsub (by omega) (by omega)]
   obtain ⟨e,he⟩:∃ e,e=mid + m - s:=⟨_,rfl⟩
   rw [← he]
   obtain ⟨X1,X2,rfl,hx1l⟩:∃ X1 X2,X=X1++X2∧X1.length=s - a:=⟨X.take (s - a),X.drop (s - a),(List.take_append_drop _ _).symm,by rw [List.length_take];omega⟩
   obtain ⟨Y1,Y2,rfl,hy1l⟩:∃ Y1 Y2,Y=Y1++Y2∧Y1.length=e - m:=⟨Y.take (e - m),Y.drop (e - m),(List.take_append_drop _ _).symm,by rw [List.length_take];omega⟩
   have lx:(X1++X2).length=X1.length + X2.length:=List.length_append
   have ly:(Y1++Y2).length=Y1.length + Y2.length:=List.length_append
   have j1:∀ y ∈ Y1,∀ x ∈ X2,kp y < kp x:=fun y hy' x hx'=>by
    obtain ⟨c,c1,c2,c3⟩:=xv22 (P:=P++X1) (R:=Y1++Y2++R) hx'
    obtain ⟨d,d1,d2,d3⟩:=xv22 (P:=P++X1++X2) (R:=Y2++R) hy'
    simp only [List.length_append] at c1 c2 d1 d2
    rw [show (P++X1)++(X2++(Y1++Y2++R))=D by rw [hD];simp] at c3
    rw [show (P++X1++X2)++(Y1++(Y2++R))=D by rw [hD];simp] at d3
    obtain ⟨u,hu⟩:=xv1 (D:=D) (c:=s) (by omega)
    obtain ⟨v,hv⟩:=xv1 (D:=D) (c:=mid + m - 1 - s) (by omega)
    have hs':s < hi:=by omega
    have:=hf2 s (Nat.le_refl _) hs'
    rw [xv14 hv hu,decide_eq_true_eq] at this
    obtain ⟨r1,r2,r3⟩:=hr s h1 hs'
    have k1:=hu;have k2:=c3;have k3:=hv;have k4:=d3
    rw [hD] at k1 k2
    rw [hD2] at k3 k4
    have o1:=xv23 sX (by omega) (show s ≤ c by omega) (by omega) k1 k2
    have o2:=xv23 sY (by omega) (show d ≤ mid + m - 1 - s by omega) (by omega) k4 k3
    omega
   have j2:∀ x ∈ X1,∀ y ∈ Y2,kp x ≤ kp y:=fun x hx' y hy'=>by
    obtain ⟨c,c1,c2,c3⟩:=xv22 (P:=P) (R:=X2++(Y1++Y2++R)) hx'
    obtain ⟨d,d1,d2,d3⟩:=xv22 (P:=P++X1++X2++Y1) (R:=R) hy'
    simp only [List.length_append] at c1 c2 d1 d2
    rw [show P++(X1++(X2++(Y1++Y2++R)))=D by rw [hD];simp] at c3
    rw [show (P++X1++X2++Y1)++(Y2++R)=D by rw [hD];simp] at d3
    obtain ⟨u,hu⟩:=xv1 (D:=D) (c:=s - 1) (by omega)
    obtain ⟨v,hv⟩:=xv1 (D:=D) (c:=mid + m - 1 - (s - 1)) (by omega)
    have hs':lo < s:=by omega
    have:=hf1 (s - 1) (by omega) (by omega)
    rw [xv14 hv hu,decide_eq_false_iff_not] at this
    obtain ⟨r1,r2,r3⟩:=hr (s - 1) (by omega) (by omega)
    have k1:=hu;have k2:=c3;have k3:=hv;have k4:=d3
    rw [hD] at k1 k2
    rw [hD2] at k3 k4
    have o1:=xv23 sX (by omega) (show c ≤ s - 1 by omega) (by omega) k2 k1
    have o2:=xv23 sY (by omega) (show mid + m - 1 - (s - 1) ≤ d by omega) (by omega) k3 k4
    omega
   have rot:(if (s:Int) < (m:Int)∧(m:Int) < (e:Int) then fn12 n s m e D else some D)=some (P++(X1++(Y1++(X2++(Y2++R))))):=by
    by_cases hc:(s:Int) < (m:Int)∧(m:Int) < (e:Int)
    ·rw [if_pos hc]
     have:=xv225 n hn (P:=P++X1) (U:=X2) (V:=Y1) (R:=Y2++R) (by intro q;have:=congrArg List.length q;simp only [List.length_nil] at this;omega) (by intro q;have:=congrArg List.length q;simp only [List.length_nil] at this;omega) (by simp only [List.length_append] at hl' ⊢;omega)
     rw [show (P++X1).length=s by simp only [List.length_append];omega,show s + X2.length=m by omega,show m + Y1.length=e by omega,show (P++X1)++(X2++(Y1++(Y2++R)))=D by rw [hD];simp] at this
     rw [this];simp
    ·rw [if_neg hc,hD]
     rcases Nat.lt_or_ge s m with q|q
     ·have:Y1=[]:=List.length_eq_zero_iff.1 (by omega)
      subst this;simp
     ·have:X2=[]:=List.length_eq_zero_iff.1 (by omega)
      subst this;simp
   rw [rot]
   simp only [Option.bind_some]
   have first:∃ S1,(if (a:Int) < (s:Int)∧(s:Int) < (mid:Int) then fn11 (f + 1) n a s mid (P++(X1++(Y1++(X2++(Y2++R))))) else some (P++(X1++(Y1++(X2++(Y2++R))))))=some (P++(S1++(X2++(Y2++R))))∧Srt kp S1∧SE kp (X1++Y1) S1:=by
    by_cases hc:(a:Int) < (s:Int)∧(s:Int) < (mid:Int)
    ·rw [if_pos hc]
     obtain ⟨S1,q1,q2,q3⟩:=ih P X1 Y1 (X2++(Y2++R)) (by intro q;have:=congrArg List.length q;simp only [List.length_nil] at this;omega) (by intro q;have:=congrArg List.length q;simp only [List.length_nil] at this;omega) (hsz _ (by omega)) sX.left sY.left (by simp only [List.length_append] at hl' ⊢;omega)
     rw [← ha,show a + X1.length=s by omega,show s + Y1.length=mid by omega] at q1
     exact ⟨S1,q1,q2,q3⟩
    ·rw [if_neg hc]
     rcases Nat.lt_or_ge a s with q|q
     ·have:Y1=[]:=List.length_eq_zero_iff.1 (by omega)
      subst this
      exact ⟨X1,by simp,sX.left,by simpa using SE.refl X1⟩
     ·have:X1=[]:=List.length_eq_zero_iff.1 (by omega)
      subst this
      exact ⟨Y1,by simp,sY.left,by simpa using SE.refl Y1⟩
   obtain ⟨S1,f1,f2,f3⟩:=first
   rw [f1]
   simp only [Option.bind_some]
   have l1:=f3.len
   simp only [List.length_append] at l1
   have second:∃ S2,(if (mid:Int) < (e:Int)∧(e:Int) < (b:Int) then fn11 (f + 1) n mid e b (P++(S1++(X2++(Y2++R)))) else some (P++(S1++(X2++(Y2++R)))))=some (P++(S1++(S2++R)))∧Srt kp S2∧SE kp (X2++Y2) S2:=by
    by_cases hc:(mid:Int) < (e:Int)∧(e:Int) < (b:Int)
    ·rw [if_pos hc]
     obtain ⟨S2,q1,q2,q3⟩:=ih (P++S1) X2 Y2 R (by intro q;have:=congrArg List.length q;simp only [List.length_nil] at this;omega) (by intro q;have:=congrArg List.length q;simp only [List.length_nil] at this;omega) (hsz _ (by omega)) sX.right sY.right (by simp only [List.length_append] at hl' ⊢;omega)
     rw [show (P++S1).length=mid by simp only [List.length_append];omega,show mid + X2.length=e by omega,show e + Y2.length=b by omega] at q1
     refine ⟨S2,?_,q2,q3⟩
     simpa using q1
    ·rw [if_neg hc]
     rcases Nat.lt_or_ge mid e with q|q
     ·have:Y2=[]:=List.length_eq_zero_iff.1 (by omega)
      subst this
      exact ⟨X2,by simp,sX.right,by simpa using SE.refl X2⟩
     ·have:X2=[]:=List.length_eq_zero_iff.1 (by omega)
      subst this
      exact ⟨Y2,by simp,sY.right,by simpa using SE.refl Y2⟩
   obtain ⟨S2,g1,g2,g3⟩:=second
   rw [g1]
   obtain ⟨z1,z2⟩:=xv62 sX sY j1 j2 f2 g2 f3 g3
   exact ⟨S1++S2,by simp,z1,z2⟩
  rw [show ∀ (x y z:Int) (w:List fn86),fn11 (f + 1 + 1) n x y z w=fn11_body (fn11 (f + 1)) n x y z w from fun _ _ _ _=>rfl]
  simp only [fn11_body]
  rw [wsub (a:=m) (b:=a) (by omega) (by omega),if_neg (by rw [decide_eq_true_eq];omega),wsub (a:=b) (b:=m) (by omega) (by omega),if_neg (by rw [decide_eq_true_eq];omega),xv127 (i:=a) (j:=b) (by omega),← hmid,wnat (a:=mid) (b:=m) (by omega),c4_eq,c4_eq,wsub1 (a:=mid + m) (by omega) (by omega)]
  by_cases hmm:m > mid
  ·rw [if_pos (by rw [decide_eq_true_eq];omega),wsub (a:=mid + m) (b:=b) (by omega) (by omega)]
   have hr:∀ c,mid + m - b ≤ c->c < mid->m ≤ mid + m - 1 - c∧mid + m - 1 - c < b∧a ≤ c:=fun c h1 h2=>by omega
   obtain ⟨s,s1,s2,s3,s4,s5⟩:=search (mid + m - b) mid (by omega) (by omega) hr (.inr (by omega)) (.inr rfl)
   rw [s3]
   exact behind s _ _ s1 s2 (by omega) (by omega) (by omega) (by omega) (.inr (by omega)) (.inr rfl) hr s4 s5
  ·rw [if_neg (by rw [decide_eq_true_eq];omega)]
   have hr:∀ c,a ≤ c->c < m->m ≤ mid + m - 1 - c∧mid + m - 1 - c < b∧a ≤ c:=fun c h1 h2=>by omega
   obtain ⟨s,s1,s2,s3,s4,s5⟩:=search a m (by omega) (by omega) hr (.inl rfl) (.inl rfl)
   rw [s3]
   exact behind s _ _ s1 s2 (by omega) (by omega) (by omega) (by omega) (.inl rfl) (.inl rfl) hr s4 s5
end Go.Rv
namespace Go.Rv
theorem xv146 (n:Nat) (hn:n ≤ big) (P:List fn86):∀ (k:Nat) (pre:List fn86) (y:fn86) (seg R:List fn86),pre.length=k->(P++(pre++y::(seg++R))).length=n->Srt kp (pre++seg)->(∀ s ∈ seg,kp y < kp s) ->
 ∃ S,iter (fn4_l1 n (P.length:Int)) (((P.length + k:Nat):Int),P++(pre++y::(seg++R)))=some (P++(S++R))∧Srt kp S∧SE kp (pre++y::seg) S
 | 0,pre,y,seg,R,hk,hl,hs,hy=>by
  have:pre=[]:=List.length_eq_zero_iff.1 hk
  subst this
  rw [yv757]
  simp only [fn4_l1,fn4_b1]
  rw [if_neg (by rw [decide_eq_true_eq];omega)]
  exact ⟨y::seg,by simp,List.pairwise_cons.2 ⟨fun s h=>Nat.le_of_lt (hy s h),hs⟩,SE.refl _⟩
 | k + 1,pre,y,seg,R,hk,hl,hs,hy=>by
  obtain ⟨pre,z,rfl,hk'⟩:=xv112 hk
  have hb:n ≤ 70368744177664:=hn
  simp only [List.length_append,List.length_cons,List.length_nil] at hl
  have e:P++(pre++[z]++y::(seg++R))=(P++pre)++z::y::(seg++R):=by simp
  obtain ⟨g1,g2,s1,g3,s2,s3,g4,s4⟩:=swap2 (P:=P++pre) (x:=z) (y:=y) (R:=seg++R) (i:=P.length + k) (n:=n) (by simp;omega) (by omega)
  obtain ⟨c,hc1,hc2⟩:=xv119 y z
  rw [yv757]
  simp only [fn4_l1,fn4_b1]
  rw [if_pos (by rw [decide_eq_true_eq];omega),show ((P.length + (k + 1):Nat):Int)=((P.length + k + 1:Nat):Int) by omega,wsub1 (by omega) (by omega),show P.length + k + 1 - 1=P.length + k by omega,e]
  simp only [xv16 (show P.length + k < n by omega),xv16 (show P.length + k + 1 < n by omega),xv0,Int.toNat_natCast,g1,g2,Option.bind_some]
  rw [show fn50 ⟨y.Id,y.N,y.A,y.B⟩ ⟨z.Id,z.N,z.A,z.B⟩=some c from hc1]
  simp only [Option.bind_some,hc2]
  by_cases hz:kp y < kp z
  ·rw [if_pos (decide_eq_true hz)]
   simp only [s3,g4,s4,Option.bind_some]
   obtain ⟨S,h1,h2,h3⟩:=xv146 n hn P k pre y (z::seg) R hk' (by simp;omega) (by simpa using hs) (fun s h=>by
    rcases List.mem_cons.1 h with rfl|h
    ·exact hz
    ·exact hy s h)
   refine ⟨S,by simpa using h1,h2,SE.trans ?_ h3⟩
   have sw:SE kp ([z]++[y]) ([y]++[z]):=SE.swap _ _ fun a ha b hb'=>by rw [List.mem_singleton.1 ha,List.mem_singleton.1 hb'];omega
   have:=((SE.refl (k:=kp) pre).app sw).app (SE.refl (k:=kp) seg)
   simpa using this
  ·rw [if_neg (by simpa using hz)]
   refine ⟨pre++[z]++y::seg,by simp,?_,SE.refl _⟩
   have h1:Srt kp ((pre++[z])++seg):=hs
   have h2:Srt kp (pre++[z]):=h1.left
   refine xv78 h2 (List.pairwise_cons.2 ⟨fun s h=>Nat.le_of_lt (hy s h),h1.right⟩) fun a ha b hb'=>?_
   have haz:kp a ≤ kp z:=by
    rcases List.mem_append.1 ha with ha|ha
    ·exact h2.le a ha z (by simp)
    ·rw [List.mem_singleton.1 ha];exact Nat.le_refl _
   rcases List.mem_cons.1 hb' with rfl|hb'
   ·omega
   ·have:=hy b hb';omega
theorem xv95 (n:Nat) (hn:n ≤ big) (P R:List fn86) (b:Nat):∀ (rest srt:List fn86),Srt kp srt->P.length + srt.length + rest.length=b->(P++(srt++(rest++R))).length=n ->
 ∃ S,iter (fn4_l0 n (P.length:Int) (b:Int)) (((P.length + srt.length:Nat):Int),P++(srt++(rest++R)))=some (P++(S++R))∧Srt kp S∧SE kp (srt++rest) S
 | [],srt,hs,hb,hl=>by
  simp only [List.length_nil] at hb
  rw [yv757]
  simp only [fn4_l0,fn4_b0]
  rw [if_neg (by rw [decide_eq_true_eq];omega)]
  exact ⟨srt,by simp,hs,by simpa using SE.refl srt⟩
 | y::rest,srt,hs,hb,hl=>by
  have hbig:n ≤ 70368744177664:=hn
  simp only [List.length_cons] at hb
  simp only [List.length_append,List.length_cons] at hl
  obtain ⟨S1,h1,h2,h3⟩:=xv146 n hn P srt.length srt y [] (rest++R) rfl (by simp;omega) (by simpa using hs) (fun _ h=>by cases h)
  rw [yv757]
  simp only [fn4_l0,fn4_b0]
  rw [if_pos (by rw [decide_eq_true_eq];omega)]
  simp only [List.nil_append] at h1
  simp only [List.cons_append,h1,Option.bind_some]
  rw [wnat1 (by omega)]
  have l3:=h3.len
  simp only [List.length_append,List.length_cons,List.length_nil] at l3
  obtain ⟨S,q1,q2,q3⟩:=xv95 n hn P R b rest S1 h2 (by omega) (by simp;omega)
  rw [show P.length + srt.length + 1=P.length + S1.length by omega]
  refine ⟨S,q1,q2,SE.trans ?_ q3⟩
  have:=h3.app (SE.refl (k:=kp) rest)
  simpa using this
theorem xv145 (n:Nat) (hn:n ≤ big) {P S0 R:List fn86} (hl:(P++(S0++R)).length=n) :
 ∃ S,fn4 n (P.length:Int) ((P.length + S0.length:Nat):Int) (P++(S0++R))=some (P++(S++R))∧Srt kp S∧SE kp S0 S:=by
 have hbig:n ≤ 70368744177664:=hn
 have hl':=hl
 simp only [List.length_append] at hl'
 simp only [fn4]
 rw [wnat1 (by omega)]
 cases S0 with
 | nil =>
  rw [yv757]
  simp only [fn4_l0,fn4_b0]
  rw [if_neg (by simp only [List.length_nil,decide_eq_true_eq];omega)]
  exact ⟨[],rfl,List.Pairwise.nil,SE.refl _⟩
 | cons x rest =>
  simp only [List.length_cons] at hl' ⊢
  obtain ⟨S,q1,q2,q3⟩:=xv95 n hn P R (P.length + (rest.length + 1)) rest [x] (List.pairwise_singleton _ _) (by simp;omega) (by simp;omega)
  refine ⟨S,?_,q2,by simpa using q3⟩
  simp only [List.length_cons,List.length_nil] at q1
  rw [show P++(x::rest++R)=P++([x]++(rest++R)) by simp,q1]
  rfl
def Blk (bs:Nat) (l:List fn86):Prop:=∀ c,Srt kp ((l.drop (c * bs)).take bs)
theorem xv29 {bs:Nat} {X R:List fn86} (h:X.length=bs):Blk bs (X++R) ↔ Srt kp X∧Blk bs R:=by
 have e:∀ c,(X++R).drop ((c + 1) * bs)=R.drop (c * bs):=fun c=>by
  rw [Nat.add_mul,Nat.one_mul,List.drop_append,List.drop_eq_nil_of_le (by omega),List.nil_append]
  congr 1;omega
 constructor
 ·intro hB
  refine ⟨?_,fun c=>?_⟩
  ·have:=hB 0
   rw [Nat.zero_mul,List.drop_zero,List.take_append_of_le_length (by omega),List.take_of_length_le (by omega)] at this
   exact this
  ·have:=hB (c + 1)
   rwa [e] at this
 ·rintro ⟨h1,h2⟩ c
  cases c with
  | zero=>rw [Nat.zero_mul,List.drop_zero,List.take_append_of_le_length (by omega),List.take_of_length_le (by omega)];exact h1
  | succ c=>rw [e];exact h2 c
theorem xv27 {bs:Nat} {l:List fn86} (h:l.length ≤ bs) (hs:Srt kp l):Blk bs l:=fun c=>by
 cases c with
 | zero=>rw [Nat.zero_mul,List.drop_zero,List.take_of_length_le h];exact hs
 | succ c =>
  rw [List.drop_eq_nil_of_le (by rw [Nat.add_mul];omega)]
  rw [List.take_nil];exact List.Pairwise.nil
theorem xv63 {bs:Nat} {l:List fn86} (h:l.length ≤ bs) (hB:Blk bs l):Srt kp l:=by
 have:=hB 0
 rwa [Nat.zero_mul,List.drop_zero,List.take_of_length_le h] at this
theorem xv42 {l:List fn86} {k:Nat} (h:k ≤ l.length):∃ a b,l=a++b∧a.length=k:=⟨l.take k,l.drop k,(List.take_append_drop _ _).symm,by rw [List.length_take];omega⟩
theorem xv81 (n:Nat) (hn:n ≤ big):∀ (t:Nat) (R D:List fn86),R.length ≤ t->(D++R).length=n ->
 ∃ Q R2,iter (fn13_l0 n (n:Int) 20) ((D.length:Int),((D.length + 20:Nat):Int),D++R)=some (((D.length + Q.length:Nat):Int),D++(Q++R2))∧SE kp R (Q++R2)∧R2.length < 20∧∀ Z,Srt kp Z->Z.length ≤ 20->Blk 20 (Q++Z):=by
 intro t
 induction t with
 | zero =>
  intro R D ht hl
  have:R=[]:=List.length_eq_zero_iff.1 (by omega)
  subst this
  simp only [List.length_append,List.length_nil] at hl
  refine ⟨[],[],?_,SE.refl _,by simp,fun Z h1 h2=>xv27 h2 h1⟩
  rw [yv757]
  simp only [fn13_l0,fn13_b0]
  rw [if_neg (by rw [decide_eq_true_eq];omega)]
  simp
 | succ t ih =>
  intro R D ht hl
  have hbig:n ≤ 70368744177664:=hn
  have hl':=hl
  simp only [List.length_append] at hl'
  rw [yv757]
  simp only [fn13_l0,fn13_b0]
  by_cases hg:20 ≤ R.length
  ·rw [if_pos (by rw [decide_eq_true_eq];omega)]
   obtain ⟨R1,R',rfl,h1⟩:=xv42 hg
   simp only [List.length_append] at hl' ht
   obtain ⟨S,q1,q2,q3⟩:=xv145 n hn (P:=D) (S0:=R1) (R:=R') (by simp;omega)
   rw [h1] at q1
   rw [q1]
   simp only [Option.bind_some]
   have ls:=q3.len
   obtain ⟨Q,R2,z1,z2,z3,z4⟩:=ih R' (D++S) (by omega) (by simp;omega)
   have lds:(D++S).length=D.length + 20:=by simp;omega
   rw [lds] at z1
   rw [show w64 (((D.length + 20:Nat):Int) + 20)=((D.length + 20 + 20:Nat):Int) from wnat (b:=20) (by omega),show D++(S++R')=D++S++R' by simp,z1]
   refine ⟨S++Q,R2,?_,?_,z3,fun Z h2 h3=>?_⟩
   ·simp only [List.length_append,List.append_assoc]
    rw [show D.length + 20 + Q.length=D.length + (S.length + Q.length) by omega]
   ·have:=q3.app z2;simpa using this
   ·rw [List.append_assoc]
    exact (xv29 (by omega)).2 ⟨q2,z4 Z h2 h3⟩
  ·rw [if_neg (by rw [decide_eq_true_eq];omega)]
   exact ⟨[],R,by simp,SE.refl _,by omega,fun Z h1 h2=>xv27 h2 h1⟩
theorem xv128 (n bs:Nat) (hn:n ≤ big) (hbs:0 < bs) (hbn:bs < n):∀ (t:Nat) (R D:List fn86),R.length ≤ t->(D++R).length=n->Blk bs R ->
 ∃ Q R2,iter (fn13_l2 n (n:Int) (bs:Int)) ((D.length:Int),((D.length + 2 * bs:Nat):Int),D++R)=some (((D.length + Q.length:Nat):Int),D++(Q++R2))∧SE kp R (Q++R2)∧R2.length < 2 * bs∧Blk bs R2∧∀ Z,Srt kp Z->Z.length ≤ 2 * bs->Blk (2 * bs) (Q++Z):=by
 intro t
 induction t with
 | zero =>
  intro R D ht hl hB
  have:R=[]:=List.length_eq_zero_iff.1 (by omega)
  subst this
  simp only [List.length_append,List.length_nil] at hl
  refine ⟨[],[],?_,SE.refl _,by simp;omega,hB,fun Z h1 h2=>xv27 h2 h1⟩
  rw [yv757]
  simp only [fn13_l2,fn13_b2]
  rw [if_neg (by rw [decide_eq_true_eq];omega)]
  simp
 | succ t ih =>
  intro R D ht hl hB
  have hbig:n ≤ 70368744177664:=hn
  have hl':=hl
  simp only [List.length_append] at hl'
  rw [yv757]
  simp only [fn13_l2,fn13_b2]
  by_cases hg:2 * bs ≤ R.length
  ·rw [if_pos (by rw [decide_eq_true_eq];omega)]
   obtain ⟨X,R1,rfl,h1⟩:=xv42 (l:=R) (k:=bs) (by omega)
   simp only [List.length_append] at hl' ht hg
   obtain ⟨Y,R',rfl,h2⟩:=xv42 (l:=R1) (k:=bs) (by omega)
   simp only [List.length_append] at hl' ht hg
   obtain ⟨sX,hB1⟩:=(xv29 h1).1 hB
   obtain ⟨sY,hB2⟩:=(xv29 h2).1 hB1
   obtain ⟨S,q1,q2,q3⟩:=xv212 n hn 47 D X Y R' (by intro q;have:=congrArg List.length q;simp only [List.length_nil] at this;omega) (by intro q;have:=congrArg List.length q;simp only [List.length_nil] at this;omega) (by omega) sX sY (by simp;omega)
   rw [h1,show D.length + bs + Y.length=D.length + 2 * bs by omega] at q1
   rw [wnat (a:=D.length) (b:=bs) (by omega),q1]
   simp only [Option.bind_some]
   have ls:=q3.len
   simp only [List.length_append] at ls
   obtain ⟨Q,R2,z1,z2,z3,z5,z4⟩:=ih R' (D++S) (by omega) (by simp;omega) hB2
   have lds:(D++S).length=D.length + 2 * bs:=by simp;omega
   rw [lds] at z1
   rw [show w64 (2 * (bs:Int))=((2 * bs:Nat):Int) by rw [xv2 (by omega) (by omega)];omega,wnat (a:=D.length + 2 * bs) (b:=2 * bs) (by omega),show D++(S++R')=D++S++R' by simp,z1]
   refine ⟨S++Q,R2,?_,?_,z3,z5,fun Z h3 h4=>?_⟩
   ·simp only [List.length_append,List.append_assoc]
    rw [show D.length + 2 * bs + Q.length=D.length + (S.length + Q.length) by omega]
   ·have:=q3.app z2;simpa using this
   ·rw [List.append_assoc]
    exact (xv29 (by omega)).2 ⟨q2,z4 Z h3 h4⟩
  ·rw [if_neg (by rw [decide_eq_true_eq];omega)]
   exact ⟨[],R,by simp,SE.refl _,by omega,hB,fun Z h1 h2=>xv27 h2 h1⟩
theorem xv97 (n:Nat) (hn:n ≤ big):∀ (t bs:Nat) (D:List fn86),n - bs ≤ t->0 < bs->bs ≤ 2 * big->D.length=n->Blk bs D->∃ S,iter (fn13_l1 n (n:Int)) ((bs:Int),D)=some S∧Srt kp S∧SE kp D S:=by
 intro t
 induction t with
 | zero =>
  intro bs D ht h0 hb2 hl hB
  rw [yv757]
  simp only [fn13_l1,fn13_b1]
  rw [if_neg (by rw [decide_eq_true_eq];omega)]
  exact ⟨D,rfl,xv63 (by omega) hB,SE.refl _⟩
 | succ t ih =>
  intro bs D ht h0 hb2 hl hB
  have hbig:n ≤ 70368744177664:=hn
  have hb3:bs ≤ 2 * 70368744177664:=hb2
  rw [yv757]
  simp only [fn13_l1,fn13_b1]
  by_cases hg:bs < n
  ·rw [if_pos (by rw [decide_eq_true_eq];omega)]
   obtain ⟨Q,R2,z1,z2,z3,z5,z4⟩:=xv128 n bs hn h0 hg n D [] (by omega) (by simpa using hl) hB
   simp only [List.length_nil,Nat.zero_add,List.nil_append] at z1
   have lq:=z2.len
   simp only [List.length_append] at lq
   rw [show w64 (2 * (bs:Int))=((2 * bs:Nat):Int) by rw [xv2 (by omega) (by omega)];omega,show ((0:Int))=((0:Nat):Int) from rfl,z1]
   simp only [Option.bind_some]
   rw [wnat (a:=Q.length) (b:=bs) (by omega),show w64 ((bs:Int) * 2)=((2 * bs:Nat):Int) by rw [xv2 (by omega) (by omega)];omega]
   have last:∃ Z,(if decide (((Q.length + bs:Nat):Int) < (n:Int))=true then (fn11 48 n (Q.length:Int) ((Q.length + bs:Nat):Int) (n:Int) (Q++R2)).bind fun x31=>(some (.inl (((2 * bs:Nat):Int),x31)):Option ((Int × List fn86) ⊕ List fn86)) else some (.inl (((2 * bs:Nat):Int),Q++R2)))=some (.inl (((2 * bs:Nat):Int),Q++Z))∧Srt kp Z∧SE kp R2 Z:=by
    by_cases hc:Q.length + bs < n
    ·rw [if_pos (by rw [decide_eq_true_eq];omega)]
     obtain ⟨X,Y,rfl,h1⟩:=xv42 (l:=R2) (k:=bs) (by omega)
     simp only [List.length_append] at lq z3
     obtain ⟨sX,hB1⟩:=(xv29 h1).1 z5
     obtain ⟨S,q1,q2,q3⟩:=xv212 n hn 47 Q X Y [] (by intro q;have:=congrArg List.length q;simp only [List.length_nil] at this;omega) (by intro q;have:=congrArg List.length q;simp only [List.length_nil] at this;omega) (by omega) sX (xv63 (by omega) hB1) (by simp;omega)
     simp only [List.append_nil] at q1
     rw [h1,show Q.length + bs + Y.length=n by omega] at q1
     rw [q1]
     exact ⟨S,rfl,q2,q3⟩
    ·rw [if_neg (by rw [decide_eq_true_eq];omega)]
     exact ⟨R2,rfl,xv63 (by omega) z5,SE.refl _⟩
   obtain ⟨Z,w1,w2,w3⟩:=last
   rw [w1]
   have lz:=w3.len
   obtain ⟨S,q1,q2,q3⟩:=ih (2 * bs) (Q++Z) (by omega) (by omega) (by show 2 * bs ≤ 2 * 70368744177664;omega) (by simp;omega) (z4 Z w2 (by omega))
   refine ⟨S,q1,q2,?_⟩
   exact (z2.trans ((SE.refl Q).app w3)).trans q3
  ·rw [if_neg (by rw [decide_eq_true_eq];omega)]
   exact ⟨D,rfl,xv63 (by omega) hB,SE.refl _⟩
theorem xv138 (l:List fn86) (hn:l.length ≤ big):∃ S,fn13 l.length (l.length:Int) l=some S∧Srt kp S∧SE kp l S:=by
 have hbig:l.length ≤ 70368744177664:=hn
 simp only [fn13]
 obtain ⟨Q,R2,z1,z2,z3,z4⟩:=xv81 l.length hn l.length l [] (Nat.le_refl _) rfl
 simp only [List.length_nil,Nat.zero_add,List.nil_append] at z1
 rw [show ((0:Int))=((0:Nat):Int) from rfl,show ((20:Int))=((20:Nat):Int) from rfl]
 rw [show ((20:Int))=((20:Nat):Int) from rfl] at z1
 rw [z1]
 simp only [Option.bind_some]
 have lq:=z2.len
 simp only [List.length_append] at lq
 obtain ⟨Z,q1,q2,q3⟩:=xv145 l.length hn (P:=Q) (S0:=R2) (R:=[]) (by simp;omega)
 simp only [List.append_nil] at q1
 rw [show Q.length + R2.length=l.length by omega] at q1
 rw [q1]
 simp only [Option.bind_some]
 have lz:=q3.len
 obtain ⟨S,w1,w2,w3⟩:=xv97 l.length hn l.length 20 (Q++Z) (by omega) (by omega) (by show 20 ≤ 2 * 70368744177664;omega) (by simp;omega) (z4 Z q2 (by omega))
 rw [w1]
 exact ⟨S,rfl,w2,(z2.trans ((SE.refl Q).app q3)).trans w3⟩
end Go.Rv
namespace Go.Rv
theorem xv209 {l:List fn104} (h:SrtP l):Srt kr l:=List.Pairwise.imp (fun {a b} hab=>UInt8.le_iff_toNat_le.1 hab) h
theorem xv224 {l:List fn104} (h:Srt kr l):SrtP l:=List.Pairwise.imp (fun {a b} hab=>UInt8.le_iff_toNat_le.2 hab) h
theorem xv226 {l s:List fn86} (h:SE kp l s):SE kr (l.map pR) (s.map pR):=fun v=>by
 rw [List.filter_map,List.filter_map]
 exact congrArg (List.map pR) (h v)
theorem xv210 {l:List fn86} (h:Srt kp l):Srt kr (l.map pR):=List.pairwise_map.2 h
theorem xv177 (o:Option (List fn86)) (h:o=none∨L o ≠ []) (hl:(L o).length ≤ 1000000000):∃ r,fn61 o=some r∧(L r).length=(L o).length∧(o=none->r=none)∧Srt kp (L r)∧SE kp (L o) (L r):=by
 cases o with
 | none =>
  refine ⟨none,?_,rfl,fun _=>rfl,List.Pairwise.nil,SE.refl _⟩
  simp only [fn61,Option.isNone_none,cond_true,fn49,yv740,Option.bind_some,fn0,fn10,fn2]
  rfl
 | some l =>
  cases l with
  | nil=>rcases h with h|h<;>simp [L] at h
  | cons x xs =>
   obtain ⟨l,hl0⟩:∃ l,l=x::xs:=⟨_,rfl⟩
   have hl1:(x::xs).length ≤ 1000000000:=hl
   have hl2:xs.length + 1 ≤ 1000000000:=hl1
   obtain ⟨S,h1,h2,h3⟩:=xv138 (x::xs) (by show (x::xs).length ≤ 70368744177664;omega)
   have hs:=h3.len
   refine ⟨some S,?_,by simpa [L] using hs.symm,(fun e=>by cases e),h2,h3⟩
   have e:fn51 (some (x::xs))=if (xs.length + 1) * 40 ≤ room∧xs.length + 1 ≤ room then (fn1 (x::xs).length (x::xs)).bind fun x3=>(chk (decide ((x::xs).length ≤ x3.length))).bind fun _=>some (some (x3.take (x::xs).length)) else none:=by
    unfold fn51 yv740
    dsimp only
    split
    ·rename_i hc;exact (if_pos hc).symm
    ·rename_i hc;exact (if_neg hc).symm
   simp only [fn61,Option.isNone_some,cond_false,e]
   rw [if_pos (by unfold room;omega)]
   simp only [fn1]
   rw [h1]
   simp only [Option.bind_some]
   rw [chk_d (Nat.le_of_eq hs)]
   simp only [Option.bind_some]
   rw [hs,List.take_length]
end Go.Rv
namespace Go.Rv
def decv:Nat->Nat->Nat->List UInt8->Nat × Nat × Nat
 | 0,_,_,_=>(0,0,3)
 | _ + 1,_,_,[]=>(0,0,2)
 | f + 1,i,n,c::l =>
  if 128 ≤ c.toNat then decv f (i + 1) (n + c.toNat % 128 * 128 ^ i) l
  else if c.toNat=0∧0 < i then (0,0,3)
  else (n + c.toNat % 128 * 128 ^ i,i + 1,0)
theorem xv163 {n i:Nat} {c:UInt8} {x:UInt32} (hx:x.toNat=n) (hn:n < 128 ^ i) (hi:i ≤ 3) :
 (x ||| yv645 (u32 ((c &&& ~~~(128:UInt8)).toNat:Int)) ((7 * i:Nat):Int)).toNat=n + c.toNat % 128 * 128 ^ i:=by
 rw [UInt32.toNat_or,xv5 (by omega),u32_toNat',low7,hx]
 have e:(2:Nat) ^ (7 * i)=128 ^ i:=by rw [Nat.pow_mul]
 rw [e]
 have h1:c.toNat % 128 < 128:=Nat.mod_lt _ (by decide)
 generalize c.toNat % 128=d at h1 ⊢
 have h2:((d:Int) % 4294967296).toNat=d:=by omega
 rw [h2]
 have h3:128 ^ i ≤ 128 ^ 3:=Nat.pow_le_pow_right (by decide) hi
 have h4:d * 128 ^ i < 4294967296:=by
  have:d * 128 ^ i ≤ 127 * 128 ^ 3:=Nat.mul_le_mul (by omega) h3
  have:(127 * 128 ^ 3:Nat)=266338304:=by decide
  omega
 rw [Nat.mod_eq_of_lt h4,← e]
 rw [← e] at hn
 exact xv41 hn
def decW (r:Nat × Nat × Nat):UInt32 × Int × Int:=(UInt32.ofNat r.1,(r.2.1:Int),(r.2.2:Int))
theorem xv162:∀ (f i n:Nat) (l:List UInt8),n < 128 ^ i->(decv f i n l).1 < 128 ^ (i + f)∧(decv f i n l).2.1 ≤ i + l.length
 | 0,i,n,l,h=>⟨Nat.lt_of_lt_of_le (by simp only [decv];exact Nat.pow_pos (by decide)) (Nat.le_refl _),by simp [decv]⟩
 | f + 1,i,n,[],h=>⟨by simp only [decv];exact Nat.pow_pos (by decide),by simp [decv]⟩
 | f + 1,i,n,c::l,h=>by
  have hd:c.toNat % 128 < 128:=Nat.mod_lt _ (by decide)
  have hs:n + c.toNat % 128 * 128 ^ i < 128 ^ (i + 1):=by
   rw [Nat.pow_succ]
   have:c.toNat % 128 * 128 ^ i ≤ 127 * 128 ^ i:=Nat.mul_le_mul_right _ (by omega)
   omega
  simp only [decv]
  split
  ·obtain ⟨h1,h2⟩:=xv162 f (i + 1) _ l hs
   exact ⟨by rw [show i + (f + 1)=i + 1 + f by omega];exact h1,by simp;omega⟩
  ·split
   ·exact ⟨by exact Nat.pow_pos (by decide),by simp⟩
   ·exact ⟨Nat.lt_of_lt_of_le hs (Nat.pow_le_pow_right (by decide) (by omega)),by simp only [List.length_cons];omega⟩
theorem xv33 (b:List UInt8) (hb:b.length ≤ 9223372036854775807):∀ (f i n:Nat) (x:UInt32),f + i=4->x.toNat=n->n < 128 ^ i->i ≤ b.length ->
 ((iter (fn52_l0 b) (x,(i:Int))).bind fun|.inl (x9,x10,x11)=>some (x9,x10,x11)|.inr _=>some ((0:UInt32),0,3))=some (decW (decv f i n (b.drop i)))
 | 0,i,n,x,hf,hx,hn,hi=>by
  have:i=4:=by omega
  subst this
  rw [yv757]
  simp only [fn52_l0,fn52_b0]
  rw [if_neg (by simp)]
  rfl
 | f + 1,i,n,x,hf,hx,hn,hi=>by
  rw [yv757]
  simp only [fn52_l0,fn52_b0]
  rw [if_pos (by simp;omega)]
  by_cases hlen:b.length ≤ i
  ·rw [if_pos (by simp;omega),List.drop_of_length_le hlen]
   rfl
  ·rw [if_neg (by simp;omega)]
   have hlt:i < b.length:=by omega
   rw [xv0,List.getElem?_eq_getElem hlt,Option.bind_some]
   have e7:w64 (7 * (i:Int))=((7 * i:Nat):Int):=by rw [show (7 * (i:Int))=((7 * i:Nat):Int) by simp];exact xv6 (by omega)
   have e1:w64 ((i:Int) + 1)=((i + 1:Nat):Int):=by rw [show ((i:Int) + 1)=((i + 1:Nat):Int) by simp];exact xv6 (by omega)
   rw [e7,chk_t (by simp;omega),Option.bind_some,List.drop_eq_getElem_cons hlt]
   have hor:=xv163 (c:=b[i]) hx hn (by omega)
   have hd:b[i].toNat % 128 < 128:=Nat.mod_lt _ (by decide)
   have hs:n + b[i].toNat % 128 * 128 ^ i < 128 ^ (i + 1):=by
    rw [Nat.pow_succ]
    have:b[i].toNat % 128 * 128 ^ i ≤ 127 * 128 ^ i:=Nat.mul_le_mul_right _ (by omega)
    omega
   simp only [decv,e1]
   by_cases h8:128 ≤ b[i].toNat
   ·rw [if_pos (by simpa [ge8] using h8),if_pos h8]
    exact xv33 b hb f (i + 1) _ _ (by omega) hor hs (by omega)
   ·rw [if_neg (by simpa [ge8] using h8),if_neg h8]
    have fin:(x ||| yv645 (u32 ((b[i] &&& ~~~(128:UInt8)).toNat:Int)) ((7 * i:Nat):Int))=UInt32.ofNat (n + b[i].toNat % 128 * 128 ^ i):=by
     rw [← hor];simp
    by_cases h0:b[i].toNat=0
    ·rw [if_pos (by simp [eq8,h0])]
     by_cases hi0:0 < i
     ·rw [if_pos (by simp;omega),if_pos ⟨h0,hi0⟩];rfl
     ·rw [if_neg (by simp;omega),if_neg (by omega)]
      simp only [decW,fin];rfl
    ·rw [if_neg (by simp [eq8,h0]),if_neg (by omega)]
     simp only [decW,fin];rfl
theorem xv121 (b:List UInt8) (hb:b.length ≤ 9223372036854775807):fn52 b=some (decW (decv 4 0 0 b)) :=
 xv33 b hb 4 0 0 0 rfl rfl (by decide) (Nat.zero_le _)
end Go.Rv
namespace Go.Rv
def decR (a:Nat) (r:Nat × Nat × Nat):UInt32 × Int × Int:=if r.2.2=0 then (UInt32.ofNat r.1,((a + r.2.1:Nat):Int),0) else (0,(a:Int),(r.2.2:Int))
theorem xv65 {n i:Nat} {c:UInt8} {x y:UInt32} (hx:x.toNat=n) (hy:y.toNat=128 ^ i) (hn:n < 128 ^ i) (hi:i ≤ 3) :
 (x + ((u32 (c.toNat:Int)) % (128:UInt32)) * y).toNat=n + c.toNat % 128 * 128 ^ i:=by
 have hc:=c.toNat_lt
 rw [UInt32.toNat_add,UInt32.toNat_mul,UInt32.toNat_mod,u32_toNat',hx,hy]
 have h2:((c.toNat:Int) % 4294967296).toNat=c.toNat:=by omega
 rw [h2]
 have h1:c.toNat % 128 < 128:=Nat.mod_lt _ (by decide)
 have h128:(128:UInt32).toNat=128:=rfl
 rw [h128]
 generalize c.toNat % 128=d at h1 ⊢
 have h3:128 ^ i ≤ 128 ^ 3:=Nat.pow_le_pow_right (by decide) hi
 have h4:d * 128 ^ i ≤ 266338304:=by
  have:d * 128 ^ i ≤ 127 * 128 ^ 3:=Nat.mul_le_mul (by omega) h3
  have e:(127 * 128 ^ 3:Nat)=266338304:=by decide
  omega
 have h5:(128:Nat) ^ 3=2097152:=by decide
 generalize d * 128 ^ i=p at h4 ⊢
 omega
theorem xv83 (o:fn71) (a:Nat) (ha:o.At=(a:Int)) (hB:o.Bad=0) (hb:o.B.length ≤ 4611686018427387904):∀ (f i n:Nat) (x y:UInt32),f + i=3->x.toNat=n->y.toNat=128 ^ i->n < 128 ^ i->a + i ≤ o.B.length ->
 iter (fn36_l0 o) (x,y,(i:Int))=some (.inl (decR a (decv (f + 1) i n (o.B.drop (a + i))))):=by
 intro f
 induction f with
 | zero =>
  intro i n x y hf hx hy hn hi
  have:i=3:=by omega
  subst this
  rw [yv757]
  simp only [fn36_l0,fn36_b0]
  rw [if_pos (by simp)]
  have ew:w64 (o.At + ((3:Nat):Int))=((a + 3:Nat):Int):=by rw [ha,show ((a:Int) + ((3:Nat):Int))=((a + 3:Nat):Int) by simp];exact xv6 (by omega)
  rw [ew]
  by_cases hlen:o.B.length ≤ a + 3
  ·rw [if_pos (by simp;omega),List.drop_of_length_le hlen,ha];rfl
  ·rw [if_neg (by simp;omega)]
   have hlt:a + 3 < o.B.length:=by omega
   rw [xv0,List.getElem?_eq_getElem hlt,Option.bind_some,chk_d (p:=(128:UInt32) ≠ 0) (by decide),Option.bind_some,List.drop_eq_getElem_cons hlt]
   have hadd:=xv65 (c:=o.B[a + 3]) hx hy hn (by omega)
   have hc:=o.B[a + 3].toNat_lt
   generalize o.B[a + 3]=c at hadd hc ⊢
   have hu:(u32 (c.toNat:Int)).toNat=c.toNat:=by rw [u32_toNat'];omega
   have hge:((u32 (c.toNat:Int)) ≥ (128:UInt32)) ↔ 128 ≤ c.toNat:=by
    show (128:UInt32) ≤ _ ↔ _
    rw [UInt32.le_iff_toNat_le,hu];rfl
   have hlt':((u32 (c.toNat:Int)) < (128:UInt32)) ↔ ¬ 128 ≤ c.toNat:=by
    rw [UInt32.lt_iff_toNat_lt,hu];show c.toNat < 128 ↔ _;omega
   have heq:((u32 (c.toNat:Int))=(0:UInt32)) ↔ c.toNat=0:=by
    rw [eq32,hu];rfl
   simp only [decv]
   by_cases h8:128 ≤ c.toNat
   ·rw [if_pos (by simpa [hge] using h8),if_pos (by simp),if_pos h8,ha];rfl
   ·rw [if_neg (by simpa [hge] using h8),if_neg h8]
    by_cases h0:c.toNat=0
    ·rw [if_pos (by simpa [heq] using h0),if_pos (by simp),if_pos ⟨h0,by omega⟩,ha];rfl
    ·rw [if_neg (by simpa [heq] using h0),if_neg (by omega)]
     simp only [fn36_c1]
     rw [if_pos (by simpa [hlt'] using h8),ew]
     have e1:w64 (((a + 3:Nat):Int) + 1)=((a + (3 + 1):Nat):Int):=by rw [show (((a + 3:Nat):Int) + 1)=((a + (3 + 1):Nat):Int) by omega];exact xv6 (by omega)
     rw [e1,hB]
     simp only [decR,if_true]
     rw [← hadd,UInt32.ofNat_toNat]
 | succ f ih =>
  intro i n x y hf hx hy hn hi
  rw [yv757]
  simp only [fn36_l0,fn36_b0]
  rw [if_pos (by simp;omega)]
  have ew:w64 (o.At + (i:Int))=((a + i:Nat):Int):=by rw [ha,show ((a:Int) + (i:Int))=((a + i:Nat):Int) by simp];exact xv6 (by omega)
  rw [ew]
  by_cases hlen:o.B.length ≤ a + i
  ·rw [if_pos (by simp;omega),List.drop_of_length_le hlen,ha];rfl
  ·rw [if_neg (by simp;omega)]
   have hlt:a + i < o.B.length:=by omega
   rw [xv0,List.getElem?_eq_getElem hlt,Option.bind_some,chk_d (p:=(128:UInt32) ≠ 0) (by decide),Option.bind_some,List.drop_eq_getElem_cons hlt]
   have hadd:=xv65 (c:=o.B[a + i]) hx hy hn (by omega)
   have hc:=o.B[a + i].toNat_lt
   have hs:n + o.B[a + i].toNat % 128 * 128 ^ i < 128 ^ (i + 1):=by
    rw [Nat.pow_succ]
    have hd:o.B[a + i].toNat % 128 < 128:=Nat.mod_lt _ (by decide)
    have:o.B[a + i].toNat % 128 * 128 ^ i ≤ 127 * 128 ^ i:=Nat.mul_le_mul_right _ (by omega)
    omega
   have hrec:=ih (i + 1) (n + o.B[a + i].toNat % 128 * 128 ^ i) (x + ((u32 (o.B[a + i].toNat:Int)) % (128:UInt32)) * y) (y * (128:UInt32)) (by omega) hadd (by
    rw [UInt32.toNat_mul,hy,Nat.pow_succ 128 i]
    have h3:128 ^ i ≤ 128 ^ 2:=Nat.pow_le_pow_right (by decide) (by omega)
    have h5:(128:Nat) ^ 2=16384:=by decide
    have h128:(128:UInt32).toNat=128:=rfl
    rw [h128]
    rw [h5] at h3
    generalize 128 ^ i=p at h3 ⊢
    rw [Nat.mod_eq_of_lt (by omega)]) hs (by omega)
   rw [show a + (i + 1)=a + i + 1 by omega] at hrec
   generalize o.B[a + i]=c at hadd hc hrec ⊢
   have hu:(u32 (c.toNat:Int)).toNat=c.toNat:=by rw [u32_toNat'];omega
   have hge:((u32 (c.toNat:Int)) ≥ (128:UInt32)) ↔ 128 ≤ c.toNat:=by
    show (128:UInt32) ≤ _ ↔ _
    rw [UInt32.le_iff_toNat_le,hu];rfl
   have hlt':((u32 (c.toNat:Int)) < (128:UInt32)) ↔ ¬ 128 ≤ c.toNat:=by
    rw [UInt32.lt_iff_toNat_lt,hu];show c.toNat < 128 ↔ _;omega
   have heq:((u32 (c.toNat:Int))=(0:UInt32)) ↔ c.toNat=0:=by
    rw [eq32,hu];rfl
   have e1:w64 ((i:Int) + 1)=((i + 1:Nat):Int):=by rw [show ((i:Int) + 1)=((i + 1:Nat):Int) by simp];exact xv6 (by omega)
   rw [decv]
   by_cases h8:128 ≤ c.toNat
   ·rw [if_pos (by simpa [hge] using h8),if_neg (by simp;omega),if_pos h8]
    have h0:¬ c.toNat=0:=by omega
    rw [if_neg (by simpa [heq] using h0)]
    simp only [fn36_c1]
    rw [if_neg (by simpa [hlt'] using h8),e1]
    exact hrec
   ·rw [if_neg (by simpa [hge] using h8),if_neg h8]
    by_cases h0:c.toNat=0
    ·rw [if_pos (by simpa [heq] using h0)]
     by_cases hi0:0 < i
     ·rw [if_pos (by simp;omega),if_pos ⟨h0,hi0⟩,ha];rfl
     ·rw [if_neg (by simp;omega),if_neg (by omega)]
      simp only [fn36_c1]
      rw [if_pos (by simpa [hlt'] using h8),ew,hB]
      have e2:w64 (((a + i:Nat):Int) + 1)=((a + (i + 1):Nat):Int):=by rw [show (((a + i:Nat):Int) + 1)=((a + (i + 1):Nat):Int) by omega];exact xv6 (by omega)
      rw [e2]
      simp only [decR,if_true]
      rw [← hadd,UInt32.ofNat_toNat]
    ·rw [if_neg (by simpa [heq] using h0),if_neg (by omega)]
     simp only [fn36_c1]
     rw [if_pos (by simpa [hlt'] using h8),ew,hB]
     have e2:w64 (((a + i:Nat):Int) + 1)=((a + (i + 1):Nat):Int):=by rw [show (((a + i:Nat):Int) + 1)=((a + (i + 1):Nat):Int) by omega];exact xv6 (by omega)
     rw [e2]
     simp only [decR,if_true]
     rw [← hadd,UInt32.ofNat_toNat]
end Go.Rv
namespace Go.Rv
end Go.Rv
namespace Go.Rv
theorem xv117 (b:List UInt8) (hb:b.length ≤ 9223372036854775807):fn27 ⟨b,0⟩=some (UInt32.ofNat (decv 4 0 0 b).1,⟨b.drop (decv 4 0 0 b).2.1,((decv 4 0 0 b).2.2:Int)⟩):=by
 have hs:=(xv162 4 0 0 b (by decide)).2
 simp only [fn27,fn26,Option.bind_some]
 rw [if_neg (by simp),xv121 b hb]
 simp only [decW,Option.bind_some]
 rw [xv60 (by omega)]
 rfl
theorem xv141 (o:fn55) (h:o.err ≠ 0):fn27 o=some (0,o):=by
 simp only [fn27,fn26,Option.bind_some]
 rw [if_pos (by simpa using h)]
theorem dec_e:∀ (f i n:Nat) (l:List UInt8),(decv f i n l).2.2 ≠ 0->(decv f i n l).1=0∧(decv f i n l).2.1=0:=by
 intro f
 induction f with
 | zero=>intro i n l _;exact ⟨rfl,rfl⟩
 | succ f ih =>
  intro i n l h
  cases l with
  | nil=>exact ⟨rfl,rfl⟩
  | cons c l =>
   simp only [decv] at h ⊢
   by_cases h8:128 ≤ c.toNat
   ·simp only [if_pos h8] at h ⊢;exact ih _ _ _ h
   ·simp only [if_neg h8] at h ⊢
    by_cases h0:c.toNat=0∧0 < i
    ·rw [if_pos h0];exact ⟨rfl,rfl⟩
    ·simp [if_neg h0] at h
theorem xv179 (B:List UInt8) (a:Nat) (hb:B.length ≤ 4611686018427387904) (ha:a ≤ B.length):fn36 ⟨B,a,0⟩ =
 some (UInt32.ofNat (decv 4 0 0 (B.drop a)).1,⟨B,((a + (decv 4 0 0 (B.drop a)).2.1:Nat):Int),((decv 4 0 0 (B.drop a)).2.2:Int)⟩):=by
 simp only [fn36]
 have h0:=xv83 ⟨B,a,0⟩ a rfl rfl hb 3 0 0 0 1 rfl rfl (by decide) (by decide) (by omega)
 rw [show (((0:Nat):Int))=0 from rfl] at h0
 rw [if_neg (by simp),h0]
 simp only [Option.bind_some,Nat.add_zero,decR]
 by_cases h:(decv 4 0 0 (B.drop a)).2.2=0
 ·rw [if_pos h,h];rfl
 ·rw [if_neg h,(dec_e _ _ _ _ h).1,(dec_e _ _ _ _ h).2];rfl
theorem xv133 (o:fn71) (h:o.Bad ≠ 0):fn36 o=some (0,o):=by
 simp only [fn36]
 rw [if_pos (by simpa using h)]
end Go.Rv
namespace Go.Rv
inductive RL (B:List UInt8) (k:Nat):fn55->fn71->Prop
 | ok (a:Nat) (hk:k ≤ a) (h:a ≤ B.length) (hB:B.length ≤ 4611686018427387904):RL B k ⟨B.drop a,0⟩ ⟨B,(a:Int),0⟩
 | bad (b:List UInt8) (A e:Int) (h:e ≠ 0):RL B k ⟨b,e⟩ ⟨B,A,e⟩
theorem RL.err {B:List UInt8} {k:Nat} {w:fn55} {r:fn71} (h:RL B k w r):w.err=r.Bad:=by cases h<;>rfl
theorem xv155 {B:List UInt8} {k:Nat} {w:fn55} {r:fn71} (n:Int) (h:RL B k w r):∃ x ok w' r',fn21 n w=some (x,ok,w')∧fn32 n r=some (x,ok,r')∧RL B k w' r' ∧
 (ok=true->0 ≤ n∧x.length=n.toNat∧w'.err=0∧x.length ≤ 4611686018427387904∧x.length ≤ B.length∧RL B (k + x.length) w' r')∧(ok=false->x=[]∧w'.err ≠ 0):=by
 cases h with
 | bad b A e he =>
  refine ⟨[],false,_,_,?_,?_,.bad b A e he,by simp,fun _=>⟨rfl,he⟩⟩
  ·simp only [fn21,fn26,Option.bind_some]
   rw [if_pos (by simpa using he)]
  ·simp only [fn32]
   rw [if_pos (by simpa using he)]
 | ok a hk h hB =>
  have ew:w64 ((B.length:Int) - (a:Int))=((B.length - a:Nat):Int):=by rw [show ((B.length:Int) - (a:Int))=((B.length - a:Nat):Int) by omega];exact xv6 (by omega)
  have bad:(n < 0∨¬ n < 0∧((B.length - a:Nat):Int) < n)->fn21 n ⟨B.drop a,0⟩=some ([],false,⟨B.drop a,2⟩)∧fn32 n ⟨B,(a:Int),0⟩=some ([],false,⟨B,(a:Int),2⟩):=by
   intro hn
   constructor
   ·simp only [fn21,fn26,Option.bind_some,List.length_drop]
    rw [if_neg (by simp)]
    rcases hn with hn|⟨hn,hb⟩
    ·rw [if_pos (by simpa using hn)];rfl
    ·rw [if_neg (by simpa using hn)]
     simp only [fn21_c0]
     rw [if_pos (by simpa using hb)]
   ·simp only [fn32,ew]
    rw [if_neg (by simp)]
    rcases hn with hn|⟨hn,hb⟩
    ·rw [if_pos (by simpa using hn)];rfl
    ·rw [if_neg (by simpa using hn)]
     simp only [fn32_c0]
     rw [if_pos (by simpa using hb)]
  by_cases hb:n < 0∨¬ n < 0∧((B.length - a:Nat):Int) < n
  ·obtain ⟨b1,b2⟩:=bad hb
   exact ⟨[],false,_,_,b1,b2,.bad _ _ _ (by decide),by simp,fun _=>⟨rfl,fun e=>absurd (show (2:Int)=0 from e) (by decide)⟩⟩
  ·obtain ⟨m,rfl⟩:∃ m:Nat,n=(m:Int):=⟨n.toNat,by omega⟩
   have e1:w64 ((a:Int) + (m:Int))=((a + m:Nat):Int):=by rw [show ((a:Int) + (m:Int))=((a + m:Nat):Int) by simp];exact xv6 (by omega)
   have s1:slc (B.drop a) 0 (m:Int)=some ((B.drop a).take m):=by
    have:=xv46 (l:=B.drop a) (a:=0) (b:=m) (Nat.zero_le _) (by simp;omega)
    rw [List.drop_zero] at this;exact this
   have s2:slc (B.drop a) (m:Int) ((B.length - a:Nat):Int)=some ((B.drop a).drop m):=by
    have:=xv60 (l:=B.drop a) (a:=m) (by simp;omega)
    rw [List.length_drop] at this;exact this
   have s3:slc B (a:Int) ((a + m:Nat):Int)=some ((B.drop a).take m):=by
    rw [xv46 (by omega) (by omega),List.drop_take,show a + m - a=m by omega]
   refine ⟨(B.drop a).take m,true,⟨B.drop (a + m),0⟩,⟨B,((a + m:Nat):Int),0⟩,?_,?_,.ok (a + m) (by omega) (by omega) hB,fun _=>⟨by omega,by simp;omega,rfl,by simp;omega,by simp;omega,.ok (a + m) (by simp;omega) (by omega) hB⟩,by simp⟩
   ·simp only [fn21,fn26,Option.bind_some,List.length_drop]
    rw [if_neg (by simp),if_neg (by simp)]
    simp only [fn21_c0,fn21_c1,List.length_drop]
    rw [if_neg (by simp;omega),s1,s2,List.drop_drop]
    rfl
   ·simp only [fn32,ew]
    rw [if_neg (by simp),if_neg (by simp)]
    simp only [fn32_c0,fn32_c1]
    rw [if_neg (by simp;omega),e1,s3]
    rfl
def numF (v:UInt64) (l:List UInt8):UInt64:=l.foldl (fun v c=>256 * v + u64 (c.toNat:Int)) v
theorem xv98 (l:List UInt8) (hl:l.length ≤ 1000):∀ (k i:Nat) (v:UInt64),i + k=l.length->iter (fn38_l0 l) (v,(i:Int))=some (numF v (l.drop i))
 | 0,i,v,h=>by
  rw [yv757]
  simp only [fn38_l0,fn38_b0]
  rw [if_neg (by simp;omega),List.drop_of_length_le (by omega)];rfl
 | k + 1,i,v,h=>by
  rw [yv757]
  simp only [fn38_l0,fn38_b0]
  have hlt:i < l.length:=by omega
  have e1:w64 ((i:Int) + 1)=((i + 1:Nat):Int):=by rw [show ((i:Int) + 1)=((i + 1:Nat):Int) by simp];exact xv6 (by omega)
  rw [if_pos (by simp;omega),xv0,List.getElem?_eq_getElem hlt,Option.bind_some,e1,List.drop_eq_getElem_cons hlt]
  exact xv98 l hl k (i + 1) _ (by omega)
theorem xv173 {B:List UInt8} {k:Nat} {w:fn55} {r:fn71} (n:Nat) (hn:n ≤ 1000) (h:RL B k w r):∃ x ok w' r',fn21 n w=some (x,ok,w')∧fn38 n r=some (numF 0 x,r')∧RL B k w' r' ∧
 (ok=true->x.length=n∧RL B (k + n) w' r')∧(ok=false->x=[]∧w'.err ≠ 0):=by
 obtain ⟨x,ok,w',r',h1,h2,h3,h4,h5⟩:=xv155 (n:Int) h
 refine ⟨x,ok,w',r',h1,?_,h3,fun e=>⟨by simpa using (h4 e).2.1,by have q:=(h4 e).2.2.2.2.2;rw [(h4 e).2.1] at q;simpa using q⟩,h5⟩
 simp only [fn38]
 rw [h2,Option.bind_some]
 cases ok with
 | false=>rw [(h5 rfl).1];rfl
 | true =>
  have hx:=(h4 rfl).2.1
  simp only [Bool.not_true]
  have:=xv98 x (by omega) x.length 0 0 (by omega)
  rw [show (((0:Nat):Int))=0 from rfl] at this
  rw [if_neg (by simp),this];rfl
theorem xv24 {n:Nat} (h:n < 4294967296):(u32 (n:Int)).toNat=n:=by rw [u32_toNat'];omega
theorem xv142 {B:List UInt8} {k:Nat} {w:fn55} {r:fn71} (h:RL B k w r):∃ c w' r',fn24 w=some (c,w')∧fn38 1 r=some (u64 (c.toNat:Int),r')∧RL B k w' r'∧(w'.err=0->RL B (k + 1) w' r'):=by
 obtain ⟨x,ok,w',r',h1,h2,h3,h4,h5⟩:=xv173 1 (by omega) h
 rw [show (((1:Nat):Int))=1 from rfl] at h1 h2
 simp only [fn24]
 rw [h1,h2,Option.bind_some]
 cases ok with
 | false=>rw [(h5 rfl).1];exact ⟨0,w',r',rfl,rfl,h3,fun e=>absurd e (h5 rfl).2⟩
 | true =>
  obtain ⟨c,rfl⟩:=List.length_eq_one_iff.1 (h4 rfl).1
  refine ⟨c,w',r',rfl,?_,h3,fun _=>(h4 rfl).2⟩
  simp only [numF,List.foldl_cons,List.foldl_nil]
  simp
theorem xv217 {B:List UInt8} {k:Nat} {w:fn55} {r:fn71} (h:RL B k w r):∃ c w' r',fn29 w=some (c,w')∧fn38 2 r=some (u64 (c.toNat:Int),r')∧RL B k w' r':=by
 obtain ⟨x,ok,w',r',h1,h2,h3,h4,h5⟩:=xv173 2 (by omega) h
 rw [show (((2:Nat):Int))=2 from rfl] at h1 h2
 simp only [fn29]
 rw [h1,h2,Option.bind_some]
 cases ok with
 | false=>rw [(h5 rfl).1];exact ⟨0,w',r',rfl,rfl,h3⟩
 | true =>
  obtain ⟨c,d,rfl⟩:∃ c d,x=[c,d]:=by
   match x,(h4 rfl).1 with
   | [c,d],_=>exact ⟨c,d,rfl⟩
  refine ⟨_,w',r',rfl,?_,h3⟩
  simp only [numF,List.foldl_cons,List.foldl_nil]
  have hc:=c.toNat_lt
  have hd:=d.toNat_lt
  have e8:(((8:UInt64).toNat:Int))=((8:Nat):Int):=rfl
  have e256:(256:UInt64).toNat=256:=rfl
  have e0:(0:UInt64).toNat=0:=rfl
  congr 2
  rw [eq64,UInt64.toNat_add,UInt64.toNat_mul,UInt64.toNat_add,UInt64.toNat_mul,e256,e0,xv11 (by omega),xv11 (by omega),UInt16.toNat_or,e8,xv35 (by omega),xv49 (by omega),xv49 (by omega),Nat.mod_eq_of_lt (show c.toNat * 2 ^ 8 < 65536 by omega),Nat.or_comm,xv41 (by omega),xv11 (by omega)]
  omega
theorem xv200 {B:List UInt8} {k:Nat} {w:fn55} {r:fn71} (h:RL B k w r):∃ c w' r',fn25 w=some (c,w')∧fn38 4 r=some (u64 (c.toNat:Int),r')∧RL B k w' r':=by
 obtain ⟨x,ok,w',r',h1,h2,h3,h4,h5⟩:=xv173 4 (by omega) h
 rw [show (((4:Nat):Int))=4 from rfl] at h1 h2
 simp only [fn25]
 rw [h1,h2,Option.bind_some]
 cases ok with
 | false=>rw [(h5 rfl).1];exact ⟨0,w',r',rfl,rfl,h3⟩
 | true =>
  obtain ⟨a,b,c,d,rfl⟩:∃ a b c d,x=[a,b,c,d]:=by
   match x,(h4 rfl).1 with
   | [a,b,c,d],_=>exact ⟨a,b,c,d,rfl⟩
  refine ⟨_,w',r',rfl,?_,h3⟩
  simp only [numF,List.foldl_cons,List.foldl_nil]
  have ha:=a.toNat_lt
  have hb:=b.toNat_lt
  have hc:=c.toNat_lt
  have hd:=d.toNat_lt
  have e8:(((8:UInt64).toNat:Int))=((8:Nat):Int):=rfl
  have e16:(((16:UInt64).toNat:Int))=((16:Nat):Int):=rfl
  have e24:(((24:UInt64).toNat:Int))=((24:Nat):Int):=rfl
  have e256:(256:UInt64).toNat=256:=rfl
  have e0:(0:UInt64).toNat=0:=rfl
  congr 2
  rw [eq64]
  simp only [UInt64.toNat_add,UInt64.toNat_mul,e256,e0,UInt32.toNat_or,e8,e16,e24]
  rw [xv11 (by omega),xv11 (by omega),xv11 (by omega),xv11 (by omega),xv5 (by omega),xv5 (by omega),xv5 (by omega),xv24 (by omega),xv24 (by omega),xv24 (by omega),xv24 (by omega),Nat.mod_eq_of_lt (show a.toNat * 2 ^ 24 < 4294967296 by omega),Nat.mod_eq_of_lt (show b.toNat * 2 ^ 16 < 4294967296 by omega),Nat.mod_eq_of_lt (show c.toNat * 2 ^ 8 < 4294967296 by omega)]
  have s1:a.toNat * 2 ^ 24 ||| b.toNat * 2 ^ 16=(b.toNat + a.toNat * 256) * 2 ^ 16:=by rw [Nat.or_comm,xv41 (by omega)];omega
  have s2:(b.toNat + a.toNat * 256) * 2 ^ 16 ||| c.toNat * 2 ^ 8=(c.toNat + (b.toNat + a.toNat * 256) * 256) * 2 ^ 8:=by rw [Nat.or_comm,xv41 (by omega)];omega
  rw [s1,s2,Nat.or_comm,xv41 (by omega),xv11 (by omega)]
  omega
theorem xv229 {B:List UInt8} {k:Nat} {w:fn55} {r:fn71} (h:RL B k w r):∃ c w' r',fn27 w=some (c,w')∧fn36 r=some (c,r')∧RL B k w' r':=by
 cases h with
 | bad b A e he=>exact ⟨0,_,_,xv141 _ he,xv133 _ he,.bad b A e he⟩
 | ok a hk h hB =>
  have hs:=(xv162 4 0 0 (B.drop a) (by decide)).2
  refine ⟨_,_,_,xv117 _ (by simp;omega),xv179 B a hB h,?_⟩
  rw [List.drop_drop]
  by_cases he:(decv 4 0 0 (B.drop a)).2.2=0
  ·rw [he];exact .ok _ (by omega) (by simp at hs;omega) hB
  ·exact .bad _ _ _ (by omega)
theorem xv194 {B:List UInt8} {k:Nat} {w:fn55} {r:fn71} (h:RL B k w r):∃ c w' r',fn30 w=some (c,w')∧fn39 r=some (c,r')∧RL B k w' r'∧c.length ≤ B.length:=by
 obtain ⟨n,w1,r1,h1,h2,h3⟩:=xv217 h
 obtain ⟨x,ok,w',r',h4,h5,h6,h7,h8⟩:=xv155 (w64 (n.toNat:Int)) h3
 have hn:=n.toNat_lt
 refine ⟨x,w',r',?_,?_,h6,by cases ok with|true=>exact (h7 rfl).2.2.2.2.1|false=>rw [(h8 rfl).1];exact Nat.zero_le _⟩
 ·simp only [fn30];rw [h1,Option.bind_some,h4];rfl
 ·simp only [fn39];rw [h2,Option.bind_some,xv11 (by omega),h5];rfl
end Go.Rv
namespace Go.Rv
theorem xv37 (x b:List UInt8) (h:x.length + b.length ≤ 4611686018427387904):fn21 (x.length:Int) ⟨x++b,0⟩=some (x,true,⟨b,0⟩):=by
 have s1:slc (x++b) 0 (x.length:Int)=some x:=by
  have:=xv46 (l:=x++b) (a:=0) (b:=x.length) (Nat.zero_le _) (by simp)
  simpa using this
 have s2:slc (x++b) (x.length:Int) ((x++b).length:Int)=some b:=by
  have:=xv60 (l:=x++b) (a:=x.length) (by simp)
  rw [this];simp
 simp only [fn21,fn26,Option.bind_some]
 rw [if_neg (by simp),if_neg (by simp)]
 simp only [fn21_c0,fn21_c1]
 rw [if_neg (by simp;omega),s1,s2]
 rfl
theorem rByte (n:Nat) (b:List UInt8) (h:b.length ≤ 4611686018427380000):fn24 ⟨be 1 n++b,0⟩=some (UInt8.ofNat n,⟨b,0⟩):=by
 have:=xv37 (be 1 n) b (by simp [xv4];omega)
 rw [xv4,show (((1:Nat):Int))=1 from rfl] at this
 simp only [fn24]
 rw [this,Option.bind_some,be1]
 have e:UInt8.ofNat (n % 256)=UInt8.ofNat n:=by rw [eq8];simp only [UInt8.toNat_ofNat'];omega
 simp only [Bool.not_true]
 rw [if_neg (by simp),e];rfl
theorem rTwo (n:Nat) (b:List UInt8) (h:b.length ≤ 4611686018427380000):fn29 ⟨be 2 n++b,0⟩=some (UInt16.ofNat n,⟨b,0⟩):=by
 have:=xv37 (be 2 n) b (by simp [xv4];omega)
 rw [xv4,show (((2:Nat):Int))=2 from rfl] at this
 simp only [fn29]
 rw [this,Option.bind_some,be2]
 simp only [Bool.not_true]
 rw [if_neg (by simp)]
 have e8:(((8:UInt64).toNat:Int))=((8:Nat):Int):=rfl
 have i0:ix [UInt8.ofNat (n / 256 % 256),UInt8.ofNat (n % 256)] 0=some (UInt8.ofNat (n / 256 % 256)):=rfl
 have i1:ix [UInt8.ofNat (n / 256 % 256),UInt8.ofNat (n % 256)] 1=some (UInt8.ofNat (n % 256)):=rfl
 have t0:(UInt8.ofNat (n / 256 % 256)).toNat=n / 256 % 256:=by simp only [UInt8.toNat_ofNat'];omega
 have t1:(UInt8.ofNat (n % 256)).toNat=n % 256:=by simp only [UInt8.toNat_ofNat'];omega
 rw [i0,i1,Option.bind_some,Option.bind_some,t0,t1,e8]
 congr 2
 rw [eq16,UInt16.toNat_or,xv35 (by omega),xv49 (by omega),xv49 (by omega),Nat.mod_eq_of_lt (show n / 256 % 256 * 2 ^ 8 < 65536 by omega),Nat.or_comm,xv41 (by omega)]
 simp only [UInt16.toNat_ofNat']
 omega
theorem rFour (n:Nat) (b:List UInt8) (h:b.length ≤ 4611686018427380000):fn25 ⟨be 4 n++b,0⟩=some (UInt32.ofNat n,⟨b,0⟩):=by
 have:=xv37 (be 4 n) b (by simp [xv4];omega)
 rw [xv4,show (((4:Nat):Int))=4 from rfl] at this
 simp only [fn25]
 rw [this,Option.bind_some,be4]
 simp only [Bool.not_true]
 rw [if_neg (by simp)]
 have e8:(((8:UInt64).toNat:Int))=((8:Nat):Int):=rfl
 have e16:(((16:UInt64).toNat:Int))=((16:Nat):Int):=rfl
 have e24:(((24:UInt64).toNat:Int))=((24:Nat):Int):=rfl
 have t0:(UInt8.ofNat (n / 16777216 % 256)).toNat=n / 16777216 % 256:=by simp only [UInt8.toNat_ofNat'];omega
 have t1:(UInt8.ofNat (n / 65536 % 256)).toNat=n / 65536 % 256:=by simp only [UInt8.toNat_ofNat'];omega
 have t2:(UInt8.ofNat (n / 256 % 256)).toNat=n / 256 % 256:=by simp only [UInt8.toNat_ofNat'];omega
 have t3:(UInt8.ofNat (n % 256)).toNat=n % 256:=by simp only [UInt8.toNat_ofNat'];omega
 have i0:∀ a b c d:UInt8,ix [a,b,c,d] 0=some a:=fun _ _ _ _=>rfl
 have i1:∀ a b c d:UInt8,ix [a,b,c,d] 1=some b:=fun _ _ _ _=>rfl
 have i2:∀ a b c d:UInt8,ix [a,b,c,d] 2=some c:=fun _ _ _ _=>rfl
 have i3:∀ a b c d:UInt8,ix [a,b,c,d] 3=some d:=fun _ _ _ _=>rfl
 rw [i0,i1,i2,i3,Option.bind_some,Option.bind_some,Option.bind_some,Option.bind_some,t0,t1,t2,t3,e8,e16,e24]
 congr 2
 rw [eq32]
 simp only [UInt32.toNat_or]
 have x0:n / 16777216 % 256 < 256:=Nat.mod_lt _ (by decide)
 have x1:n / 65536 % 256 < 256:=Nat.mod_lt _ (by decide)
 have x2:n / 256 % 256 < 256:=Nat.mod_lt _ (by decide)
 have x3:n % 256 < 256:=Nat.mod_lt _ (by decide)
 have xs:(UInt32.ofNat n).toNat=n % 256 + (n / 256 % 256 + (n / 65536 % 256 + n / 16777216 % 256 * 256) * 256) * 256:=by simp only [UInt32.toNat_ofNat'];omega
 rw [xs]
 generalize n / 16777216 % 256=a at x0 ⊢
 generalize n / 65536 % 256=b at x1 ⊢
 generalize n / 256 % 256=c at x2 ⊢
 generalize n % 256=d at x3 ⊢
 rw [xv5 (by omega),xv5 (by omega),xv5 (by omega),xv24 (by omega),xv24 (by omega),xv24 (by omega),xv24 (by omega),Nat.mod_eq_of_lt (show a * 2 ^ 24 < 4294967296 by omega),Nat.mod_eq_of_lt (show b * 2 ^ 16 < 4294967296 by omega),Nat.mod_eq_of_lt (show c * 2 ^ 8 < 4294967296 by omega)]
 have s1:a * 2 ^ 24 ||| b * 2 ^ 16=(b + a * 256) * 2 ^ 16:=by rw [Nat.or_comm,xv41 (by omega)];omega
 have s2:(b + a * 256) * 2 ^ 16 ||| c * 2 ^ 8=(c + (b + a * 256) * 256) * 2 ^ 8:=by rw [Nat.or_comm,xv41 (by omega)];omega
 rw [s1,s2,Nat.or_comm,xv41 (by omega)]
theorem xv219:∀ (f i n m:Nat) (l:List UInt8),m < 128 ^ (f + 1)->(0 < i->0 < m)->decv (f + 1) i n (vb m++l)=(n + m * 128 ^ i,i + (vb m).length,0)
 | 0,i,n,m,l,h,hi=>by
  have hm:m < 128:=by simpa using h
  rw [vb_lt hm]
  simp only [List.cons_append,List.nil_append,decv]
  have t:(UInt8.ofNat m).toNat=m:=by simp only [UInt8.toNat_ofNat'];omega
  rw [t,if_neg (by omega),if_neg (by omega),Nat.mod_eq_of_lt hm];rfl
 | f + 1,i,n,m,l,h,hi=>by
  by_cases hm:m < 128
  ·rw [vb_lt hm]
   simp only [List.cons_append,List.nil_append,decv]
   have t:(UInt8.ofNat m).toNat=m:=by simp only [UInt8.toNat_ofNat'];omega
   rw [t,if_neg (by omega),if_neg (by omega),Nat.mod_eq_of_lt hm];rfl
  ·rw [vb_ge hm]
   simp only [List.cons_append]
   rw [decv]
   have t:(UInt8.ofNat (m % 128 + 128)).toNat=m % 128 + 128:=by simp only [UInt8.toNat_ofNat'];omega
   have t2:(m % 128 + 128) % 128=m % 128:=by omega
   rw [t,if_pos (by omega),t2,xv219 f (i + 1) _ (m / 128) l (by rw [Nat.pow_succ] at h;exact Nat.div_lt_of_lt_mul (by omega)) (by omega)]
   have e:n + m % 128 * 128 ^ i + m / 128 * 128 ^ (i + 1)=n + m * 128 ^ i:=by
    rw [Nat.pow_succ,Nat.add_assoc,Nat.mul_comm (128 ^ i) 128,← Nat.mul_assoc,← Nat.add_mul]
    congr 2
    omega
   rw [e,List.length_cons,show i + 1 + (vb (m / 128)).length=i + ((vb (m / 128)).length + 1) by omega]
theorem rVar (n:UInt32) (b:List UInt8) (hn:n.toNat ≤ 268435455) (h:b.length ≤ 4611686018427380000):fn27 ⟨vb n.toNat++b,0⟩=some (n,⟨b,0⟩):=by
 have hl:=xv114 5 n.toNat (xv113 n)
 have p4:(128:Nat) ^ (3 + 1)=268435456:=by decide
 have e:=xv219 3 0 0 n.toNat b (by omega) (by omega)
 rw [xv117 _ (by simp;omega),e]
 simp
theorem rBin (x b:List UInt8) (hx:x.length ≤ 300) (h:b.length ≤ 4611686018427370000):fn30 ⟨be 2 x.length++x++b,0⟩=some (x,⟨b,0⟩):=by
 simp only [fn30]
 rw [List.append_assoc,rTwo _ _ (by simp;omega),Option.bind_some]
 have e:(UInt16.ofNat x.length).toNat=x.length:=by simp only [UInt16.toNat_ofNat'];omega
 simp only [e]
 rw [xv6 (by omega),xv37 x b (by omega)]
 rfl
end Go.Rv
namespace Go.Rv
theorem RL.up {B:List UInt8} {k m:Nat} {w:fn55} {r:fn71} (h:RL B k w r) (h2:w.err=0->RL B m w r):RL B m w r:=by
 cases h with
 | ok a hk h hB=>exact h2 rfl
 | bad b A e he=>exact .bad b A e he
abbrev pZ:fn86:=⟨0,0,[],[]⟩
abbrev rZ:fn104:=⟨0,0,[],[]⟩
def NxR (b:List UInt8) (x:Option (fn86 × Bool × fn55)) (y:Option (fn104 × Int)):Prop :=
 (∃ p n,x=some (pQ p,true,⟨b.drop n,0⟩)∧y=some (p,((n:Nat):Int))∧1 ≤ n∧n ≤ b.length∧okB p=true∧p.A.length ≤ b.length∧p.B.length ≤ b.length)∨(∃ w',x=some (pZ,false,w')∧y=some (rZ,0))
theorem xv40 {b:List UInt8} (hb:b.length ≤ 13000) {w:fn55} {r:fn71} (h:RL b 1 w r) (p:fn104) (ha:p.A.length ≤ b.length) (hB:p.B.length ≤ b.length) :
 NxR b (fn60_c1 w (pQ p) fun x y z=>some (z,x,y)) (fn98_c1 r p fun x y=>some (y,x)):=by
 simp only [fn60_c1,fn98_c1,fn26,Option.bind_some]
 cases h with
 | bad b' A e he =>
  rw [if_pos (by simpa using he),if_pos (by simpa using he)]
  exact .inr ⟨_,rfl,rfl⟩
 | ok a hk h hB' =>
  rw [if_neg (by simp),if_neg (by simp)]
  have e1:=xv28 (pQ p) (by show p.A.length ≤ 13000;omega) (by show p.B.length ≤ 13000;omega)
  have e2:=xv75 p (by omega) (by omega)
  rw [show fn58 ⟨(pQ p).Id,(pQ p).N,(pQ p).A,(pQ p).B⟩=some (okB p) from e1,show fn81 ⟨p.Id,p.N,p.A,p.B⟩=some (okB p) from e2]
  simp only [Option.bind_some]
  cases hr:okB p with
  | false=>exact .inr ⟨_,rfl,rfl⟩
  | true=>exact .inl ⟨p,a,rfl,rfl,hk,h,hr,ha,hB⟩
theorem xv195 (c:UInt8):u8 ((u64 (c.toNat:Int)).toNat:Int)=c:=by
 have:=c.toNat_lt
 rw [xv11 (by omega)]
 apply UInt8.toNat_inj.1
 rw [u8_toNat'];omega
theorem xv204 (b:List UInt8) (hb:b.length ≤ 13000):NxR b (fn60 ⟨b,0⟩) (fn98 b):=by
 have h0:RL b 0 ⟨b,0⟩ ⟨b,0,0⟩:=.ok 0 (Nat.le_refl _) (Nat.zero_le _) (by omega)
 obtain ⟨c,w1,r1,a1,a2,a3,a4⟩:=xv142 h0
 have h1:RL b 1 w1 r1:=a3.up a4
 simp only [fn60,fn98]
 rw [a1,a2]
 simp only [Option.bind_some,xv195,xv9,xv56]
 have z:([]:List UInt8).length ≤ b.length:=Nat.zero_le _
 by_cases t0:typeT c=0
 ·simp only [t0,decide_true,decide_false,Bool.false_eq_true,if_true,if_false,Int.reduceEq,fn60_c0]
  rcases xv40 hb h1 ⟨c,0,[],[]⟩ z z with ⟨p,n,q1,q2,q3,q4,q5,_⟩|⟨w',q1,q2⟩
  ·exfalso
   simp only [fn98_c1] at q2
   split at q2
   ·simp only [Option.some.injEq,Prod.mk.injEq] at q2;omega
   ·have e2:=xv75 ⟨c,0,[],[]⟩ (by simp) (by simp)
    have:xv8 c 0 [] []=false:=by simp [xv8,t0]
    rw [show fn81 ⟨c,0,[],[]⟩=some (xv8 c 0 [] []) from e2,this] at q2
    simp only [Option.bind_some,Bool.not_false,if_true] at q2
    simp only [Option.some.injEq,Prod.mk.injEq] at q2;omega
  ·exact .inr ⟨w',q1,rfl⟩
 by_cases t1:typeT c=1
 ·simp only [t1,decide_true,decide_false,Bool.false_eq_true,if_true,if_false,Int.reduceEq]
  obtain ⟨d,w2,r2,b1,b2,b3,_⟩:=xv142 h1
  rw [b1,b2]
  simp only [Option.bind_some]
  have hd:=d.toNat_lt
  rw [xv11 (by omega)]
  exact xv40 hb b3 ⟨c,u32 (d.toNat:Int),[],[]⟩ z z
 by_cases t2:typeT c=2
 ·simp only [t2,decide_true,decide_false,Bool.false_eq_true,if_true,if_false,Int.reduceEq]
  obtain ⟨d,w2,r2,b1,b2,b3⟩:=xv217 h1
  rw [b1,b2]
  simp only [Option.bind_some]
  have hd:=d.toNat_lt
  rw [xv11 (by omega)]
  exact xv40 hb b3 ⟨c,u32 (d.toNat:Int),[],[]⟩ z z
 by_cases t3:typeT c=3
 ·simp only [t3,decide_true,decide_false,Bool.false_eq_true,if_true,if_false,Int.reduceEq]
  obtain ⟨d,w2,r2,b1,b2,b3⟩:=xv200 h1
  rw [b1,b2]
  simp only [Option.bind_some]
  have hd:=d.toNat_lt
  have:u32 ((u64 (d.toNat:Int)).toNat:Int)=d:=by
   rw [xv11 (by omega)]
   apply UInt32.toNat_inj.1
   rw [u32_toNat'];omega
  rw [this]
  exact xv40 hb b3 ⟨c,d,[],[]⟩ z z
 by_cases t4:typeT c=4
 ·simp only [t4,decide_true,decide_false,Bool.false_eq_true,if_true,if_false,Int.reduceEq]
  obtain ⟨d,w2,r2,b1,b2,b3⟩:=xv229 h1
  rw [show fn27 w1=_ from b1,show fn36 ⟨r1.B,r1.At,r1.Bad⟩=_ from b2]
  exact xv40 hb b3 ⟨c,d,[],[]⟩ z z
 obtain ⟨d,w2,r2,b1,b2,b3,b4⟩:=xv194 h1
 by_cases t5:typeT c=5
 ·simp only [t5,decide_true,decide_false,Bool.false_eq_true,if_true,if_false,Int.reduceEq,fn60_c0,fn98_c0]
  rw [b1,b2]
  exact xv40 hb b3 ⟨c,0,d,[]⟩ b4 z
 by_cases t6:typeT c=6
 ·simp only [t6,decide_true,decide_false,Bool.false_eq_true,if_true,if_false,Int.reduceEq,fn60_c0,fn98_c0]
  rw [b1,b2]
  exact xv40 hb b3 ⟨c,0,d,[]⟩ b4 z
 by_cases t7:typeT c=7
 ·simp only [t7,decide_true,decide_false,Bool.false_eq_true,if_true,if_false,Int.reduceEq,fn60_c0,fn98_c0]
  rw [b1,b2]
  simp only [Option.bind_some]
  obtain ⟨e,w3,r3,c1,c2,c3,c4⟩:=xv194 b3
  rw [c1,c2]
  exact xv40 hb c3 ⟨c,0,d,e⟩ b4 c4
 simp only [t0,t1,t2,t3,t4,t5,t6,t7,decide_true,decide_false,Bool.false_eq_true,if_true,if_false,Int.reduceEq,fn60_c0,fn98_c0]
 exact xv40 hb h1 ⟨c,0,[],[]⟩ z z
end Go.Rv
namespace Go.Rv
def nxt (b:List UInt8):Option (fn104 × Nat):=match fn98 b with
 | some (p,n)=>if n=0 then none else some (p,n.toNat)
 | none=>none
theorem xv68 (b:List UInt8) (hb:b.length ≤ 13000) :
 (∃ p n,nxt b=some (p,n)∧fn60 ⟨b,0⟩=some (pQ p,true,⟨b.drop n,0⟩)∧fn98 b=some (p,((n:Nat):Int))∧1 ≤ n∧n ≤ b.length∧okB p=true∧p.A.length ≤ b.length∧p.B.length ≤ b.length) ∨
 (nxt b=none∧(∃ w',fn60 ⟨b,0⟩=some (pZ,false,w'))∧fn98 b=some (rZ,0)):=by
 rcases xv204 b hb with ⟨p,n,h1,h2,h3,h⟩|⟨w',h1,h2⟩
 ·refine .inl ⟨p,n,?_,h1,h2,h3,h⟩
  simp only [nxt,h2]
  rw [if_neg (by omega)]
  simp
 ·exact .inr ⟨by simp only [nxt,h2];rfl,⟨w',h1⟩,h2⟩
def prs:Nat->List UInt8->List fn104 × Bool
 | 0,_=>([],true)
 | f + 1,b=>if b.isEmpty then ([],true) else match nxt b with
  | none=>([],false)
  | some (p,n)=>(p::(prs f (b.drop n)).1,(prs f (b.drop n)).2)
theorem xv150 (f:Nat):prs f []=([],true):=by cases f<;>rfl
def lo {α:Type} (l:List α):Option (List α):=if l.isEmpty then none else some l
theorem L_lo {α:Type} (l:List α):L (lo l)=l:=by cases l<;>rfl
theorem xv220 {α:Type} {n:Nat} (l:List α) (x:α) (h:(l.length + 1) * n ≤ room) (h2:l.length + 1 ≤ room):appO n (lo l) (some [x])=some (lo (l++[x])):=by
 have:=xv21 (n:=n) (x:=lo l) (a:=x) (l:=[]) (by rw [L_lo];simpa using h) (by rw [L_lo];simpa using h2)
 rw [this,L_lo]
 cases l<;>rfl
theorem app40 {α:Type} {l:List α} {x:α} (h:l.length ≤ 20000):appO 40 (lo l) (some [x])=some (lo (l++[x])):=xv220 l x (by unfold room;omega) (by unfold room;omega)
def itm (r:List fn104 × Bool):List (fn86 × Bool × Unit):=r.1.map (fun p=>(pQ p,true,()))++if r.2 then [] else [(pZ,false,())]
theorem xv122:∀ (f:Nat) (b:List UInt8) (o:Option (List UInt8)) (acc:List (fn86 × Bool × Unit)),b.length ≤ f->b.length ≤ 13000 ->
 ∃ y,iter (stepT fn48_l) (acc,(o,⟨b,0⟩))=some (acc++itm (prs f b),y):=by
 intro f
 have left0:∀ b:List UInt8,fn22 ⟨b,0⟩=some ((b.length:Int),⟨b,0⟩):=fun b=>rfl
 induction f with
 | zero =>
  intro b o acc h1 h2
  have:b=[]:=List.length_eq_zero_iff.1 (by omega)
  subst this
  rw [yv757]
  simp only [stepT,fn48_l,fn48_b,left0,Option.bind_some]
  rw [if_neg (by simp)]
  exact ⟨_,by simp [prs,itm];rfl⟩
 | succ f ih =>
  intro b o acc h1 h2
  rw [yv757]
  simp only [stepT,fn48_l,fn48_b,left0,Option.bind_some]
  cases b with
  | nil =>
   rw [if_neg (by simp),xv150]
   exact ⟨_,by simp [itm];rfl⟩
  | cons c t =>
   rw [if_pos (by simp)]
   simp only [prs]
   rw [if_neg (show ¬ (List.isEmpty (c::t))=true by simp)]
   rcases xv68 (c::t) h2 with ⟨p,n,e1,e2,e3,n1,n2,_⟩|⟨e1,⟨w',e2⟩,_⟩
   ·rw [e2,e1]
    have hd:((c::t).drop n).length=(c::t).length - n:=List.length_drop
    obtain ⟨y,hy⟩:=ih ((c::t).drop n) o (acc++[(pQ p,true,())]) (by omega) (by omega)
    refine ⟨y,?_⟩
    simp only [Option.bind_some,hand,Bool.not_false,Bool.not_true,if_true,Bool.false_eq_true,if_false,List.isEmpty_nil,stopB,Bool.and_self]
    rw [hy]
    simp [itm]
   ·rw [e2,e1]
    refine ⟨.inl (o,w',pZ),?_⟩
    simp only [Option.bind_some,hand,Bool.not_false,Bool.not_true,if_true,Bool.false_eq_true,if_false,List.isEmpty_nil,stopB,Bool.and_self]
    simp [itm]
theorem xv197 (o:Option (List UInt8)) (hb:(L o).length ≤ 13000):fn48 o=some (itm (prs (L o).length (L o))):=by
 obtain ⟨y,hy⟩:=xv122 (L o).length (L o) o [] (Nat.le_refl _) hb
 simp only [fn48,fn48_g,fn77,Option.bind_some,yv752]
 rw [hy]
 rfl
end Go.Rv
namespace Go.Rv
end Go.Rv
namespace Go.Rv
end Go.Rv
namespace Go.Rv
theorem takeL:∀ (l:List fn104) (acc:List fn86) (tail:List (fn86 × Bool × Unit)),acc.length + l.length ≤ 20000 ->
 iterL fn62_l0 (l.map (fun p=>(pQ p,true,()))++tail) (lo acc)=iterL fn62_l0 tail (lo (acc++l.map pQ))
 | [],acc,tail,h=>by simp
 | p::l,acc,tail,h=>by
  simp only [List.length_cons] at h
  simp only [List.map_cons,List.cons_append,iterL,fn62_l0,fn62_b0]
  rw [if_neg (by simp),app40 (by omega)]
  simp only [Option.bind_some]
  have:=takeL l (acc++[pQ p]) tail (by simp;omega)
  rw [this];simp
theorem xv180 (x:List UInt8) (hx:x.length ≤ 4611686018427387904):fn23 ⟨x,0⟩=some (x,⟨[],0⟩):=by
 have:=xv37 x [] (by simpa using hx)
 rw [List.append_nil] at this
 simp only [fn23,fn22,fn26,Option.bind_some]
 rw [if_neg (by simp)]
 simp only [Option.bind_some]
 rw [this];rfl
def SrtOf (l s:List fn104):Prop:=SrtP s∧SE kr l s
theorem SrtOf.uniq {l s t:List fn104} (h:SrtOf l s) (h2:SrtOf l t):s=t:=xv47 (k:=kr) _ _ (xv209 h.1) (xv209 h2.1) (h.2.symm.trans h2.2)
theorem xv178 (o:Option (List fn86)) (h:o=none∨L o ≠ []) (hl:(L o).length ≤ 1000000000):∃ r,fn61 o=some r∧(L r).length=(L o).length∧(o=none->r=none)∧SrtOf ((L o).map pR) ((L r).map pR):=by
 obtain ⟨r,h1,h2,h3,h4,h5⟩:=xv177 o h hl
 exact ⟨r,h1,h2,h3,xv224 (xv210 h4),xv226 h5⟩
theorem xv183 (o:Option (List fn104)) (h:(L o).length ≤ 100000):∃ r,fn96 o=some (some r)∧SrtOf (L o) r :=
 let ⟨r,h1,h2,h3⟩:=xv107 o h;⟨r,h1,h2,h3⟩
theorem xv96 {α:Type} (l:List α):lo l=none∨L (lo l) ≠ []:=by
 cases l with
 | nil=>exact .inl rfl
 | cons a l=>exact .inr (by rw [L_lo];simp)
theorem xv91 (x:List UInt8) (hx:x.length ≤ 13000):fn59 (some x)=some (some x):=by
 simp only [fn59]
 rw [clone_eq' (some x) (by show x.length ≤ lim;unfold lim;omega)]
 rfl
end Go.Rv
namespace Go.Rv
theorem be1_c (c:UInt8):be 1 c.toNat=[c]:=by
 rw [be1]
 congr 1
 apply UInt8.toNat_inj.1
 rw [UInt8.toNat_ofNat']
 have:=c.toNat_lt
 omega
theorem rC (c:UInt8) (b:List UInt8) (h:b.length ≤ 4611686018427380000):fn24 ⟨c::b,0⟩=some (c,⟨b,0⟩):=by
 have:=rByte c.toNat b h
 rw [be1_c] at this
 rw [show c::b=[c]++b from rfl,this,UInt8.ofNat_toNat]
theorem xv198 (p:fn104) (t:List UInt8) (ha:p.A.length ≤ 13000) (hb:p.B.length ≤ 13000) (ok:okB p=true) :
 fn60_c1 ⟨t,0⟩ (pQ p) (fun x y z=>some (z,x,y))=some (pQ p,true,⟨t,0⟩):=by
 simp only [fn60_c1,fn26,Option.bind_some]
 rw [if_neg (by simp)]
 have e1:=xv28 (pQ p) ha hb
 rw [show fn58 ⟨(pQ p).Id,(pQ p).N,(pQ p).A,(pQ p).B⟩=some (okB p) from e1,ok]
 rfl
theorem xv171 (p:fn104) (t:List UInt8) (ha:p.A.length ≤ 300) (hb:p.B.length ≤ 300) (ok:okB p=true) (ht:t.length ≤ 1000000) :
 fn60 ⟨oneN p++t,0⟩=some (pQ p,true,⟨t,0⟩):=by
 obtain ⟨id,n,a,b⟩:=p
 have hn:=n.toNat_lt
 have hv:=xv115 n
 have en:=xv198 ⟨id,n,a,b⟩ t (by simp only at *;omega) (by simp only at *;omega) ok
 simp only at ha hb
 simp only [okB,xv8] at ok
 simp only [oneN,fn60]
 by_cases t1:typeT id=1
 ·simp only [t1,if_true,Bool.and_eq_true,decide_eq_true_eq] at ok
  obtain ⟨o1,rfl,rfl⟩:=ok
  have o1':n.toNat < 256:=UInt32.lt_iff_toNat_lt.1 o1
  simp only [t1,if_true]
  rw [show (id::be 1 n.toNat)++t=id::(be 1 n.toNat++t) from rfl,rC _ _ (by simp [xv4];omega)]
  simp only [Option.bind_some,xv9,t1,decide_true,if_true]
  rw [rByte _ _ (by omega)]
  simp only [Option.bind_some]
  rw [show u32 (((UInt8.ofNat n.toNat).toNat:Nat):Int)=n from by
   apply UInt32.toNat_inj.1
   rw [u32_toNat',UInt8.toNat_ofNat'];omega]
  exact en
 by_cases t2:typeT id=2
 ·simp only [t1,t2,if_true,if_false,Int.reduceEq,Bool.and_eq_true,decide_eq_true_eq] at ok
  obtain ⟨o1,rfl,rfl⟩:=ok
  have o1':n.toNat < 65536:=UInt32.lt_iff_toNat_lt.1 o1
  simp only [t1,t2,if_true,if_false,Int.reduceEq]
  rw [show (id::be 2 n.toNat)++t=id::(be 2 n.toNat++t) from rfl,rC _ _ (by simp [xv4];omega)]
  simp only [Option.bind_some,xv9,t2,decide_true,decide_false,Bool.false_eq_true,if_true,if_false,Int.reduceEq]
  rw [rTwo _ _ (by omega)]
  simp only [Option.bind_some]
  rw [show u32 (((UInt16.ofNat n.toNat).toNat:Nat):Int)=n from by
   apply UInt32.toNat_inj.1
   rw [u32_toNat',UInt16.toNat_ofNat'];omega]
  exact en
 by_cases t3:typeT id=3
 ·simp only [t1,t2,t3,if_true,if_false,Int.reduceEq,Bool.and_eq_true,decide_eq_true_eq] at ok
  obtain ⟨rfl,rfl⟩:=ok
  simp only [t1,t2,t3,if_true,if_false,Int.reduceEq]
  rw [show (id::be 4 n.toNat)++t=id::(be 4 n.toNat++t) from rfl,rC _ _ (by simp [xv4];omega)]
  simp only [Option.bind_some,xv9,t3,decide_true,decide_false,Bool.false_eq_true,if_true,if_false,Int.reduceEq]
  rw [rFour _ _ (by omega)]
  simp only [Option.bind_some,UInt32.ofNat_toNat]
  exact en
 by_cases t4:typeT id=4
 ·simp only [t1,t2,t3,t4,if_true,if_false,Int.reduceEq,Bool.and_eq_true,decide_eq_true_eq] at ok
  obtain ⟨o1,rfl,rfl⟩:=ok
  have o1':n.toNat < 268435456:=UInt32.lt_iff_toNat_lt.1 o1
  simp only [t1,t2,t3,t4,if_true,if_false,Int.reduceEq]
  rw [if_neg (by omega),show (id::vb n.toNat)++t=id::(vb n.toNat++t) from rfl,rC _ _ (by simp;omega)]
  simp only [Option.bind_some,xv9,t4,decide_true,decide_false,Bool.false_eq_true,if_true,if_false,Int.reduceEq]
  rw [rVar _ _ (by omega) (by omega)]
  simp only [Option.bind_some]
  exact en
 by_cases t5:typeT id=5
 ·simp only [t1,t2,t3,t4,t5,if_true,if_false,Int.reduceEq,Bool.and_eq_true,decide_eq_true_eq] at ok
  obtain ⟨⟨rfl,_⟩,rfl⟩:=ok
  simp only [t1,t2,t3,t4,t5,if_true,if_false,Int.reduceEq,binN]
  rw [show (id::(be 2 a.length++a))++t=id::(be 2 a.length++a++t) from rfl,rC _ _ (by simp [xv4];omega)]
  simp only [Option.bind_some,xv9,t5,decide_true,decide_false,Bool.false_eq_true,if_true,if_false,Int.reduceEq,fn60_c0]
  rw [rBin _ _ ha (by omega)]
  simp only [Option.bind_some]
  exact en
 by_cases t6:typeT id=6
 ·simp only [t1,t2,t3,t4,t5,t6,if_true,if_false,Int.reduceEq,Bool.and_eq_true,decide_eq_true_eq] at ok
  obtain ⟨rfl,rfl⟩:=ok
  simp only [t1,t2,t3,t4,t5,t6,if_true,if_false,Int.reduceEq,binN]
  rw [show (id::(be 2 a.length++a))++t=id::(be 2 a.length++a++t) from rfl,rC _ _ (by simp [xv4];omega)]
  simp only [Option.bind_some,xv9,t6,decide_true,decide_false,Bool.false_eq_true,if_true,if_false,Int.reduceEq,fn60_c0]
  rw [rBin _ _ ha (by omega)]
  simp only [Option.bind_some]
  exact en
 by_cases t7:typeT id=7
 ·simp only [t1,t2,t3,t4,t5,t6,t7,if_true,if_false,Int.reduceEq,Bool.and_eq_true,decide_eq_true_eq] at ok
  obtain ⟨⟨rfl,_⟩,_⟩:=ok
  simp only [t1,t2,t3,t4,t5,t6,t7,if_true,if_false,Int.reduceEq,binN]
  rw [show (id::(be 2 a.length++a++(be 2 b.length++b)))++t=id::(be 2 a.length++a++(be 2 b.length++b++t)) from by simp,rC _ _ (by simp [xv4];omega)]
  simp only [Option.bind_some,xv9,t7,decide_true,decide_false,Bool.false_eq_true,if_true,if_false,Int.reduceEq,fn60_c0]
  rw [rBin _ _ ha (by simp [xv4];omega)]
  simp only [Option.bind_some]
  rw [rBin _ _ hb (by omega)]
  simp only [Option.bind_some]
  exact en
 ·simp only [t1,t2,t3,t4,t5,t6,t7,if_false,Int.reduceEq,Bool.false_eq_true] at ok
theorem xv100 (p:fn104):1 ≤ (oneN p).length:=by simp [oneN]
theorem xv149:∀ (l:List fn104) (f:Nat),(secN l).length ≤ 13000->(secN l).length ≤ f->(∀ p ∈ l,okB p=true∧p.A.length ≤ 300∧p.B.length ≤ 300)->prs f (secN l)=(l,true)
 | [],f,_,_,_=>xv150 f
 | p::l,f,hs,hf,ht=>by
  have e:secN (p::l)=oneN p++secN l:=by simp [secN]
  have hp:=xv100 p
  rw [e,List.length_append] at hs hf
  cases f with
  | zero=>omega
  | succ f =>
   obtain ⟨h1,h2,h3⟩:=ht p List.mem_cons_self
   have nf:=xv171 p (secN l) h2 h3 h1 (by omega)
   rw [e]
   simp only [prs]
   have hne:¬ List.isEmpty (oneN p++secN l)=true:=by
    intro h;rw [List.isEmpty_iff] at h
    have:=congrArg List.length h
    simp at this;simp [this] at hp
   rw [if_neg hne]
   rcases xv68 (oneN p++secN l) (by rw [List.length_append];omega) with ⟨q,n,e1,e2,_,n1,n2,_⟩|⟨_,⟨w',e2⟩,_⟩
   ·rw [nf] at e2
    simp only [Option.some.injEq,Prod.mk.injEq,fn55.mk.injEq,true_and,and_true] at e2
    obtain ⟨c1,c2⟩:=e2
    have:q=p:=(congrArg pR c1).symm
    rw [e1,this]
    show (p::(prs f (List.drop n (oneN p++secN l))).1,(prs f (List.drop n (oneN p++secN l))).2)=(p::l,true)
    rw [← c2,xv149 l f (by omega) (by omega) fun x hx=>ht x (List.mem_cons_of_mem _ hx)]
   ·rw [nf] at e2
    simp at e2
theorem xv71 (l:List fn104) (t:List UInt8) (hl:(secN l).length ≤ 13000) (ht:t.length ≤ 1000000) (h:∀ p ∈ l,okB p=true∧p.A.length ≤ 300∧p.B.length ≤ 300) :
 ∃ x,fn62 ⟨putN l++t,0⟩=some (x,true,⟨t,0⟩)∧SrtOf l ((L x).map pR)∧(L x).length=l.length∧(x=none∨L x ≠ []):=by
 have hll:l.length ≤ (secN l).length:=by
  clear hl h
  induction l with
  | nil=>exact Nat.zero_le _
  | cons p l ih =>
   have e:secN (p::l)=oneN p++secN l:=by simp [secN]
   have:=xv100 p
   rw [e,List.length_append,List.length_cons];omega
 simp only [fn62]
 have hu:(UInt32.ofNat (secN l).length).toNat=(secN l).length:=by rw [UInt32.toNat_ofNat'];omega
 have rv:=rVar (UInt32.ofNat (secN l).length) (secN l++t) (by rw [hu];omega) (by rw [List.length_append];omega)
 rw [hu] at rv
 rw [show putN l++t=vb (secN l).length++(secN l++t) from by simp [putN],rv]
 simp only [Option.bind_some,fn28]
 rw [hu,xv6 (by omega),xv37 (secN l) t (by omega)]
 simp only [Option.bind_some,fn26]
 rw [if_neg (by simp),xv180 _ (by omega)]
 simp only [Option.bind_some]
 have s1:s2b (secN l)=some (some (secN l)):=by simp only [s2b];rw [if_pos (by unfold room;omega)]
 rw [s1]
 simp only [Option.bind_some]
 rw [xv91 _ (by omega)]
 simp only [Option.bind_some]
 rw [xv197 (some (secN l)) (by show (secN l).length ≤ 13000;omega)]
 simp only [Option.bind_some]
 have hL:L (some (secN l))=secN l:=rfl
 rw [hL,xv149 l _ hl (Nat.le_refl _) h]
 have tl:=takeL l [] [] (by simp;omega)
 simp only [List.nil_append,List.append_nil] at tl
 have hn0:(lo ([]:List fn86))=none:=rfl
 rw [hn0] at tl
 simp only [itm,if_true,List.append_nil]
 rw [tl]
 simp only [iterL,Option.bind_some,Bool.not_true,Bool.false_eq_true,if_false]
 obtain ⟨sx,q1,q2,q3,q4⟩:=xv178 (lo (l.map pQ)) (xv96 _) (by rw [L_lo];simp;omega)
 rw [L_lo,pR_pQ] at q4
 rw [L_lo] at q2
 refine ⟨sx,by rw [q1];rfl,q4,by rw [q2];simp,?_⟩
 rcases xv96 (l.map pQ) with hq|hq
 ·exact .inl (q3 hq)
 ·refine .inr fun e=>hq ?_
  rw [e] at q2
  rw [L_lo]
  exact List.length_eq_zero_iff.1 q2.symm
end Go.Rv
namespace Go.Rv
end Go.Rv
namespace Go.Rv
end Go.Rv
namespace Go.Rv
abbrev pT:fn104:=⟨33,7,[],[]⟩
theorem ok_T:okB pT=true:=by decide +kernel
theorem sec_T:secN [pT]=[33,0,7]:=by decide +kernel
theorem put_T:putN [pT]=[3,33,0,7]:=by
 simp only [putN,sec_T]
 rw [vb_lt (by decide)];rfl
theorem xv211 (p:fn104):SrtOf [p] [p]:=⟨by simp [SrtP],SE.refl _⟩
theorem xv170 {l:List fn86} {m:List fn104} (h:l.map pR=m):l=m.map pQ:=by
 rw [← h,List.map_map]
 exact (List.map_id l).symm
theorem xv216:fn91=some true:=by
 have ht:∀ x ∈ L (some [(⟨33,7,[],[]⟩:fn86)]),x.A.length ≤ 13000∧x.B.length ≤ 13000:=by
  intro x hx
  have:x=⟨33,7,[],[]⟩:=by simpa [L] using hx
  subst this;decide
 have hm:(L (some [(⟨33,7,[],[]⟩:fn86)])).map pR=[pT]:=rfl
 simp only [fn91]
 rw [xv70 none _ (by simp [L]) (by simp [L]) ht,hm,if_pos (by simp [ok_T])]
 simp only [Option.bind_some,fn77]
 have e0:L (some (L (none:Option (List UInt8))++putN [pT]))=putN [pT]++[]:=by simp [L]
 rw [e0]
 obtain ⟨x,h1,h2,h3,h4⟩:=xv71 [pT] [] (by rw [sec_T];decide) (by simp) (by
  intro p hp
  have:p=pT:=by simpa using hp
  subst this;exact ⟨ok_T,by decide,by decide⟩)
 rw [h1]
 simp only [Option.bind_some]
 have h5:(L x).map pR=[pT]:=SrtOf.uniq h2 (xv211 pT)
 have h6:L x=[⟨33,7,[],[]⟩]:=xv170 h5
 have ht2:∀ y ∈ L x,y.A.length ≤ 13000∧y.B.length ≤ 13000:=by rw [h6];exact ht
 rw [List.append_nil,put_T,xv176 x (by rw [h6];decide) ht2,h5,xv70 none none (by simp [L]) (by simp [L]) (by simp [L]),
  xv69 1 x (by rw [h6];decide) ht2,xv69 3 x (by rw [h6];decide) ht2,h5,h6]
 have c1:xv82 1 [pT]=true:=by decide +kernel
 have c3:xv82 3 [pT]=false:=by decide +kernel
 have p0:putN []=[0]:=by simp only [putN,secN,List.flatMap_nil,List.append_nil,List.length_nil];rw [vb_lt (by decide)];rfl
 simp [c1,c3,ok_T,put_T,ix,p0,L]
theorem SrtOf.perm {l s:List fn104} (h:SrtOf l s):l.Perm s:=h.2.perm
end Go.Rv
namespace Go.Rv
theorem xv175 (p:fn104) (ha:p.A.length ≤ 200) (hb:p.B.length ≤ 200):(oneN p).length ≤ 411:=by
 have:=xv115 p.N
 simp only [oneN,binN]
 split
 ·simp [xv4]
 ·split
  ·simp [xv4]
  ·split
   ·simp [xv4]
   ·split
    ·split
     ·simp
     ·simp;omega
    ·split
     ·simp [xv4];omega
     ·simp [xv4];omega
theorem xv152:∀ (l:List fn104),(∀ x ∈ l,x.A.length ≤ 200∧x.B.length ≤ 200)->(secN l).length ≤ 411 * l.length
 | [],h=>by simp [secN]
 | p::l,h=>by
  have e:secN (p::l)=oneN p++secN l:=by simp [secN]
  have h1:=h p List.mem_cons_self
  have h2:=xv175 p h1.1 h1.2
  have h3:=xv152 l fun x hx=>h x (List.mem_cons_of_mem _ hx)
  rw [e,List.length_append,List.length_cons];omega
end Go.Rv
namespace Go.Rv
theorem xv53:good []=true:=by kernel_rfl
open Go.Lib
def SG:List (List UInt8):=[[97],[98],[97,98],[195,164],[226,130,172],[240,159,153,130],[49],[99]]
inductive Sg:Nat->List UInt8->Prop
 | nil:Sg 0 []
 | cons (w t:List UInt8) (n:Nat) (hw:w ∈ SG) (h:Sg n t):Sg (n + 1) (w++t)
theorem Sg.snoc:∀ {n:Nat} {l:List UInt8},Sg n l->∀ w,w ∈ SG->Sg (n + 1) (l++w)
 | _,_,.nil,w,hw=>by have:=Sg.cons w [] 0 hw .nil;simpa using this
 | _,_,.cons v t n hv h,w,hw=>by rw [List.append_assoc];exact .cons v (t++w) _ hv (h.snoc w hw)
theorem Sg.app {n:Nat} {l:List UInt8} (h:Sg n l):∀ {m:Nat} {r:List UInt8},Sg m r->Sg (n + m) (l++r):=by
 induction h with
 | nil=>intro m r k;simpa using k
 | cons v t n hv h ih=>intro m r k;rw [List.append_assoc,show n + 1 + m=n + m + 1 by omega];exact .cons v _ _ hv (ih k)
theorem xv184 (w:List UInt8) (h:w ∈ SG):1 ≤ w.length∧w.length ≤ 4:=by
 simp only [SG,List.mem_cons,List.mem_nil_iff,or_false] at h
 rcases h with rfl|rfl|rfl|rfl|rfl|rfl|rfl|rfl<;>decide
theorem Sg.len:∀ {n:Nat} {l:List UInt8},Sg n l->l.length ≤ 4 * n
 | _,_,.nil=>by simp
 | _,_,.cons w t n hw h=>by have:=h.len;have:=xv184 w hw;simp;omega
theorem xv17 (c:UInt8) (t:List UInt8) (k:Nat) (h:sgn (c::t)=k + 1):good (c::t)=good (t.drop k):=by
 rw [xv59,h,if_neg (by omega)];rfl
theorem xv13 (c:UInt8) (t:List UInt8) (h:128 ≤ c.toNat) (h2:c.toNat < 192):good (c::t)=false:=by
 have:sgn (c::t)=0:=by simp only [sgn];rw [if_neg (by omega),if_neg (by omega),if_neg (by omega),if_pos h]
 rw [xv59,if_pos this]
theorem xv3 (c:UInt8) (t:List UInt8) (h:c.toNat < 128) (h0:c.toNat ≠ 0):good (c::t)=good t:=by
 have:sgn (c::t)=0 + 1:=by
  simp only [sgn];rw [if_neg (by omega),if_neg (by omega),if_neg (by omega),if_neg (by omega),restS,if_neg (by omega)]
 rw [xv17 c t 0 this];rfl
theorem xv38 (w t:List UInt8) (hw:w ∈ SG):good (w++t)=good t:=by
 simp only [SG,List.mem_cons,List.mem_nil_iff,or_false] at hw
 rcases hw with rfl|rfl|rfl|rfl|rfl|rfl|rfl|rfl
 ·exact xv3 _ _ (by decide) (by decide)
 ·exact xv3 _ _ (by decide) (by decide)
 ·exact (xv3 _ _ (by decide) (by decide)).trans (xv3 _ _ (by decide) (by decide))
 ·exact xv17 _ _ 1 (by simp [sgn,contN,restN])
 ·exact xv17 _ _ 2 (by simp [sgn,contN,restN])
 ·exact xv17 _ _ 3 (by simp [sgn,contN,restN])
 ·exact xv3 _ _ (by decide) (by decide)
 ·exact xv3 _ _ (by decide) (by decide)
theorem Sg.good:∀ {n:Nat} {l:List UInt8},Sg n l->Rv.good l=true
 | _,_,.nil=>xv53
 | _,_,.cons w t n hw h=>by rw [xv38 w t hw];exact h.good
def rcl:Nat->List UInt8->Nat
 | 0,_=>0
 | _ + 1,[]=>0
 | f + 1,c::t=>1 + rcl f ((c::t).drop (decodeL (c::t)).2)
theorem xv103:∀ (f g:Nat) (l:List UInt8),l.length ≤ f->l.length ≤ g->rcl f l=rcl g l
 | 0,g,l,hf,hg=>by
  have:l=[]:=List.eq_nil_of_length_eq_zero (by omega)
  subst this;cases g<;>rfl
 | f + 1,0,l,hf,hg=>by
  have:l=[]:=List.eq_nil_of_length_eq_zero (by omega)
  subst this;rfl
 | f + 1,g + 1,[],hf,hg=>rfl
 | f + 1,g + 1,c::t,hf,hg=>by
  have hw:=decodeL_width (c::t)
  simp only [rcl]
  rw [xv103 f g _ (by rw [List.length_drop];simp at hf ⊢;omega) (by rw [List.length_drop];simp at hg ⊢;omega)]
def rc (l:List UInt8):Nat:=rcl l.length l
theorem xv18 (c:UInt8) (t:List UInt8) (k:Nat) (h:sgn (c::t)=k + 1):rc (c::t)=1 + rc (t.drop k):=by
 have hs:=xv111 c t
 rw [h] at hs
 split at hs
 ·omega
 ·simp only [rc,List.length_cons,rcl]
  rw [← hs,List.drop_succ_cons,xv103 t.length (t.drop k).length _ (by rw [List.length_drop];omega) (Nat.le_refl _)]
theorem xv34 (c:UInt8) (t:List UInt8) (h:c.toNat < 128) (h0:c.toNat ≠ 0):sgn (c::t)=0 + 1:=by
 simp only [sgn];rw [if_neg (by omega),if_neg (by omega),if_neg (by omega),if_neg (by omega),restS,if_neg (by omega)]
theorem xv151 (w t:List UInt8) (hw:w ∈ SG):rc (w++t)=rc w + rc t:=by
 simp only [SG,List.mem_cons,List.mem_nil_iff,or_false] at hw
 rcases hw with rfl|rfl|rfl|rfl|rfl|rfl|rfl|rfl
 ·exact xv18 _ _ 0 (xv34 _ _ (by decide) (by decide))
 ·exact xv18 _ _ 0 (xv34 _ _ (by decide) (by decide))
 ·refine (xv18 _ _ 0 (xv34 _ _ (by decide) (by decide))).trans ?_
  have:=xv18 98 t 0 (xv34 _ _ (by decide) (by decide))
  have e:rc [97,98]=2:=by kernel_rfl
  rw [e]
  simp only [List.drop_zero] at this
  show 1 + rc (98::t)=_
  rw [this];omega
 ·exact xv18 _ _ 1 (by simp [sgn,contN,restN])
 ·exact xv18 _ _ 2 (by simp [sgn,contN,restN])
 ·exact xv18 _ _ 3 (by simp [sgn,contN,restN])
 ·exact xv18 _ _ 0 (xv34 _ _ (by decide) (by decide))
 ·exact xv18 _ _ 0 (xv34 _ _ (by decide) (by decide))
theorem Sg.rc {n:Nat} {l:List UInt8} (h:Sg n l) (r:List UInt8):Rv.rc (l++r)=Rv.rc l + Rv.rc r:=by
 induction h with
 | nil=>simp [Rv.rc,rcl]
 | cons w t n hw h ih=>rw [List.append_assoc,xv151 w _ hw,ih,xv151 w t hw];omega
def lead (c:UInt8):Bool:=decide (c.toNat < 128) || decide (192 ≤ c.toNat)
theorem xv161 (w t:List UInt8) (hw:w ∈ SG) (ht:Rv.good t=true) (k:Nat) (hk:k < w.length) (c:UInt8) (hc:w[k]?=some c):Rv.good (w.take k)=lead c∧Rv.good (w.drop k++t)=lead c:=by
 have hg:=xv38 w t hw
 have two:∀ (a b:UInt8),Rv.good ((a::b::t))=Rv.good (a::b::t):=fun _ _=>rfl
 have hk4:=(xv184 w hw).2
 simp only [SG,List.mem_cons,List.mem_nil_iff,or_false] at hw
 have g0:=xv53
 have ga:Rv.good [97]=true:=by kernel_rfl
 have b1:Rv.good [195]=false:=by kernel_rfl
 have b2:Rv.good [226]=false:=by kernel_rfl
 have b3:Rv.good [226,130]=false:=by kernel_rfl
 have b4:Rv.good [240]=false:=by kernel_rfl
 have b5:Rv.good [240,159]=false:=by kernel_rfl
 have b6:Rv.good [240,159,153]=false:=by kernel_rfl
 have gb:Rv.good (98::t)=true:=(xv3 98 t (by decide) (by decide)).trans ht
 match k,hk4 with
 | 0,_ =>
  rw [List.take_zero,List.drop_zero,hg,ht,g0]
  rcases hw with rfl|rfl|rfl|rfl|rfl|rfl|rfl|rfl<;>(cases hc;exact ⟨rfl,rfl⟩)
 | 1,_ =>
  rcases hw with rfl|rfl|rfl|rfl|rfl|rfl|rfl|rfl
  ·simp at hk
  ·simp at hk
  ·cases hc;exact ⟨ga,gb⟩
  ·cases hc;exact ⟨b1,xv13 _ _ (by decide) (by decide)⟩
  ·cases hc;exact ⟨b2,xv13 _ _ (by decide) (by decide)⟩
  ·cases hc;exact ⟨b4,xv13 _ _ (by decide) (by decide)⟩
  ·simp at hk
  ·simp at hk
 | 2,_ =>
  rcases hw with rfl|rfl|rfl|rfl|rfl|rfl|rfl|rfl
  ·simp at hk
  ·simp at hk
  ·simp at hk
  ·simp at hk
  ·cases hc;exact ⟨b3,xv13 _ _ (by decide) (by decide)⟩
  ·cases hc;exact ⟨b5,xv13 _ _ (by decide) (by decide)⟩
  ·simp at hk
  ·simp at hk
 | 3,_ =>
  rcases hw with rfl|rfl|rfl|rfl|rfl|rfl|rfl|rfl
  ·simp at hk
  ·simp at hk
  ·simp at hk
  ·simp at hk
  ·simp at hk
  ·cases hc;exact ⟨b6,xv13 _ _ (by decide) (by decide)⟩
  ·simp at hk
  ·simp at hk
 | k + 4,h4=>omega
end Go.Rv
namespace Go.Rv
open Go.Lib
theorem Sg.cut {n:Nat} {l:List UInt8} (h:Sg n l):∀ (k:Nat) (c:UInt8),l[k]?=some c->Rv.good (l.take k)=lead c∧Rv.good (l.drop k)=lead c:=by
 induction h with
 | nil=>intro k c hc;simp at hc
 | cons w t n hw h ih =>
  intro k c hc
  by_cases hk:k < w.length
  ·rw [List.getElem?_append_left hk] at hc
   have:=xv161 w t hw h.good k hk c hc
   rw [List.take_append_of_le_length (by omega),List.drop_append_of_le_length (by omega)]
   exact this
  ·rw [List.getElem?_append_right (by omega)] at hc
   have:=ih (k - w.length) c hc
   rw [List.take_append,List.drop_append,List.take_of_length_le (by omega),List.drop_of_length_le (by omega),List.nil_append,xv38 w _ hw]
   exact this
def fixL:Option (List (List UInt8)):=some [[97],[98],[97,98],[195,164],[226,130,172],[240,159,153,130],[49],[99]]
theorem xv164 (s:List UInt8):∀ (f i n:Nat) (o:List UInt8),f + i=8->n ≤ i->Sg n o->∃ m q,m ≤ 8∧Sg m q∧iter (fn116_l0 s fixL) (o,(i:Int))=some q:=by
 intro f
 induction f with
 | zero =>
  intro i n o hi hn ho
  refine ⟨n,o,by omega,ho,?_⟩
  rw [yv757]
  simp only [fn116_l0,fn116_b0]
  by_cases h:i < s.length
  ·rw [if_pos (by simp;omega),if_neg (by simp;omega)]
  ·rw [if_neg (by simp;omega)]
 | succ f ih =>
  intro i n o hi hn ho
  by_cases h:i < s.length
  ·have hc:=s[i].toNat_lt
   have hm:s[i].toNat % 8 < fixL.get!.length:=by
    show _ < 8;omega
   have hw:fixL.get![s[i].toNat % 8] ∈ SG:=by
    have:=List.getElem_mem hm
    exact this
   obtain ⟨m,q,h1,h2,h3⟩:=ih (i + 1) (n + 1) (o++fixL.get![s[i].toNat % 8]) (by omega) (by omega) (ho.snoc _ hw)
   refine ⟨m,q,h1,h2,?_⟩
   rw [yv757]
   simp only [fn116_l0,fn116_b0]
   have e0:w64 (s[i].toNat:Int)=(s[i].toNat:Int):=xv2 (by omega) (by omega)
   have e8:((L fixL).length:Int)=8:=rfl
   have e1:((s[i].toNat:Int)).tmod 8=((s[i].toNat % 8:Nat):Int):=by
    rw [Int.tmod_eq_emod_of_nonneg (by omega)];simp
   have e2:ix (L fixL) ((s[i].toNat % 8:Nat):Int)=some (fixL.get![s[i].toNat % 8]):=by
    rw [xv0];exact List.getElem?_eq_getElem hm
   have ew:w64 ((i:Int) + 1)=((i + 1:Nat):Int):=by rw [xv2 (by omega) (by omega)];simp
   have hl:=ho.len
   have hl2:=(xv184 _ hw).2
   rw [if_pos (by simp;omega),if_pos (by simp;omega),xv0,List.getElem?_eq_getElem h,Option.bind_some,e8,e0,e1]
   rw [show chk (decide ((8:Int) ≠ 0))=some () from rfl,Option.bind_some,e2,Option.bind_some]
   simp only [catS]
   rw [if_pos (by omega),Option.bind_some,ew]
   exact h3
  ·refine ⟨n,o,by omega,ho,?_⟩
   rw [yv757]
   simp only [fn116_l0,fn116_b0]
   rw [if_neg (by simp;omega)]
theorem xv123 (s:List UInt8):∃ m q,m ≤ 8∧Sg m q∧fn116 s=some q:=by
 obtain ⟨m,q,h1,h2,h3⟩:=xv164 s 8 0 0 [] rfl (Nat.le_refl _) .nil
 refine ⟨m,q,h1,h2,?_⟩
 simp only [fn116]
 rw [show (((0:Nat):Int))=0 from rfl] at h3
 have:iter (fn116_l0 s (some [[97],[98],[97,98],[195,164],[226,130,172],[240,159,153,130],[49],[99]])) ([],0)=some q:=h3
 rw [this];rfl
end Go.Rv
namespace Go.Rv
theorem xv196 (s:List UInt8) (k:Nat) (hk:k ≤ 1000):slc s 0 (imin (s.length:Int) (k:Int))=some (s.take k):=by
 have e:imin (s.length:Int) (k:Int)=((min s.length k:Nat):Int):=by
  simp only [imin];split<;>omega
 have:=xv46 (l:=s) (a:=0) (b:=min s.length k) (by omega) (by omega)
 rw [show ((0:Nat):Int)=0 from rfl,List.drop_zero] at this
 rw [e,this]
 rcases Nat.le_total s.length k with h|h
 ·rw [Nat.min_eq_left h,List.take_length,List.take_of_length_le h]
 ·rw [Nat.min_eq_right h]
end Go.Rv
namespace Go.Rv
open Go.Lib
end Go.Rv
namespace Go.Rv
open Go.Lib
def TG:List (List UInt8):=[[97],[98],[47],[99],[100],[47],[195,164],[101]]
inductive Tw:Nat->List UInt8->Prop
 | nil:Tw 0 []
 | cons (w t:List UInt8) (n:Nat) (hw:w ∈ TG) (h:Tw n t):Tw (n + 1) (w++t)
theorem Tw.snoc:∀ {n:Nat} {l:List UInt8},Tw n l->∀ w,w ∈ TG->Tw (n + 1) (l++w)
 | _,_,.nil,w,hw=>by have:=Tw.cons w [] 0 hw .nil;simpa using this
 | _,_,.cons v t n hv h,w,hw=>by rw [List.append_assoc];exact .cons v _ _ hv (h.snoc w hw)
theorem xv215 (w:List UInt8) (h:w ∈ TG):1 ≤ w.length∧w.length ≤ 2:=by
 simp only [TG,List.mem_cons,List.mem_nil_iff,or_false] at h
 rcases h with rfl|rfl|rfl|rfl|rfl|rfl|rfl|rfl<;>decide
theorem Tw.len:∀ {n:Nat} {l:List UInt8},Tw n l->l.length ≤ 2 * n
 | _,_,.nil=>by simp
 | _,_,.cons w t n hw h=>by have:=h.len;have:=xv215 w hw;simp;omega
theorem xv201 (w t:List UInt8) (hw:w ∈ TG):good (w++t)=good t:=by
 simp only [TG,List.mem_cons,List.mem_nil_iff,or_false] at hw
 rcases hw with rfl|rfl|rfl|rfl|rfl|rfl|rfl|rfl
 ·exact xv3 _ _ (by decide) (by decide)
 ·exact xv3 _ _ (by decide) (by decide)
 ·exact xv3 _ _ (by decide) (by decide)
 ·exact xv3 _ _ (by decide) (by decide)
 ·exact xv3 _ _ (by decide) (by decide)
 ·exact xv3 _ _ (by decide) (by decide)
 ·exact xv17 _ _ 1 (by simp [sgn,contN,restN])
 ·exact xv3 _ _ (by decide) (by decide)
theorem Tw.good:∀ {n:Nat} {l:List UInt8},Tw n l->Rv.good l=true
 | _,_,.nil=>xv53
 | _,_,.cons w t n hw h=>by rw [xv201 w t hw];exact h.good
theorem xv189 (w:List UInt8) (h:w ∈ TG):∀ b ∈ w,b ≠ 36∧b ≠ 43∧b ≠ 35∧b ≠ 115:=by
 simp only [TG,List.mem_cons,List.mem_nil_iff,or_false] at h
 rcases h with rfl|rfl|rfl|rfl|rfl|rfl|rfl|rfl<;>decide
theorem Tw.bytes:∀ {n:Nat} {l:List UInt8},Tw n l->∀ b ∈ l,b ≠ 36∧b ≠ 43∧b ≠ 35∧b ≠ 115
 | _,_,.nil=>by simp
 | _,_,.cons w t n hw h=>by
  intro b hb
  rcases List.mem_append.1 hb with hb|hb
  ·exact xv189 w hw b hb
  ·exact h.bytes b hb
theorem xv140 (s:List UInt8):∀ (f i n:Nat) (o:List UInt8),f + i=8->n ≤ i->Tw n o->∃ m q,m ≤ 8∧Tw m q∧iter (fn117_l0 s (some TG)) (o,(i:Int))=some q:=by
 intro f
 induction f with
 | zero =>
  intro i n o hi hn ho
  refine ⟨n,o,by omega,ho,?_⟩
  rw [yv757]
  simp only [fn117_l0,fn117_b0]
  by_cases h:i < s.length
  ·rw [if_pos (by simp;omega),if_neg (by simp;omega)]
  ·rw [if_neg (by simp;omega)]
 | succ f ih =>
  intro i n o hi hn ho
  by_cases h:i < s.length
  ·have hc:=s[i].toNat_lt
   have hm:s[i].toNat % 8 < TG.length:=by
    show _ < 8;omega
   have hw:TG[s[i].toNat % 8] ∈ TG:=List.getElem_mem hm
   obtain ⟨m,q,h1,h2,h3⟩:=ih (i + 1) (n + 1) (o++TG[s[i].toNat % 8]) (by omega) (by omega) (ho.snoc _ hw)
   refine ⟨m,q,h1,h2,?_⟩
   rw [yv757]
   simp only [fn117_l0,fn117_b0]
   have e0:w64 (s[i].toNat:Int)=(s[i].toNat:Int):=xv2 (by omega) (by omega)
   have e8:((L (some TG)).length:Int)=8:=rfl
   have e1:((s[i].toNat:Int)).tmod 8=((s[i].toNat % 8:Nat):Int):=by
    rw [Int.tmod_eq_emod_of_nonneg (by omega)];simp
   have e2:ix (L (some TG)) ((s[i].toNat % 8:Nat):Int)=some (TG[s[i].toNat % 8]):=by
    rw [xv0];exact List.getElem?_eq_getElem hm
   have ew:w64 ((i:Int) + 1)=((i + 1:Nat):Int):=by rw [xv2 (by omega) (by omega)];simp
   have hl:=ho.len
   have hl2:=(xv215 _ hw).2
   rw [if_pos (by simp;omega),if_pos (by simp;omega),xv0,List.getElem?_eq_getElem h,Option.bind_some,e8,e0,e1]
   rw [show chk (decide ((8:Int) ≠ 0))=some () from rfl,Option.bind_some,e2,Option.bind_some]
   simp only [catS]
   rw [if_pos (by omega),Option.bind_some,ew]
   exact h3
  ·refine ⟨n,o,by omega,ho,?_⟩
   rw [yv757]
   simp only [fn117_l0,fn117_b0]
   rw [if_neg (by simp;omega)]
theorem xv214 (s:List UInt8):∃ m q,m ≤ 8∧Tw m q∧q ≠ []∧fn117 s=some q:=by
 obtain ⟨m,q,h1,h2,h3⟩:=xv140 s 8 0 0 [] rfl (Nat.le_refl _) .nil
 rw [show (((0:Nat):Int))=0 from rfl] at h3
 have h4:iter (fn117_l0 s (some [[97],[98],[47],[99],[100],[47],[195,164],[101]])) ([],0)=some q:=h3
 simp only [fn117,h4,Option.bind_some]
 by_cases h:q=[]
 ·exact ⟨1,[97],by omega,.cons [97] [] 0 (by decide) .nil,by simp,by simp [h]⟩
 ·exact ⟨m,q,h1,h2,h,by simp [h]⟩
theorem xv172 {x:List UInt8} (h:∀ b ∈ x,b ≠ 43∧b ≠ 35):wild x=false:=by
 simp only [wild,Bool.or_eq_false_iff]
 constructor
 ·rw [Bool.eq_false_iff];intro e;exact (h 43 (by simpa using e)).1 rfl
 ·rw [Bool.eq_false_iff];intro e;exact (h 35 (by simpa using e)).2 rfl
end Go.Rv
