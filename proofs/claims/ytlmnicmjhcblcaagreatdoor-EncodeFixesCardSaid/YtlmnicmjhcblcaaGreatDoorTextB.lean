/- Plain laws. -/
import Derived.Test.YtlmnicmjhcblcaaGreatDoorTextA
set_option linter.unusedSimpArgs false
set_option linter.unusedVariables false
set_option maxRecDepth 100000
namespace Go.Rv
open Go.Lib
def idsL:List UInt8:=[1,2,3,8,9,11,17,18,19,21,22,23,24,25,26,28,31,33,34,35,36,37,38,39,40,41,42]
theorem xv201 (k:Int):∀ (f i:Nat) (o:Option (List UInt8)),idsL.length - i ≤ f->i ≤ idsL.length->(L o).length ≤ i ->
 ∃ o',iter (fn181_l0 k (some idsL)) (o,(i:Int))=some o'∧L o'=L o++(idsL.drop i).filter (fun x=>forB x k):=by
 intro f
 induction f with
 | zero =>
  intro i o h1 h2 h3
  refine ⟨o,?_,?_⟩
  ·rw [yv700]
   simp only [fn181_l0,fn181_b0,xv2]
   rw [if_neg (by rw [decide_eq_true_eq];omega)]
  ·rw [show idsL.drop i=[] from List.drop_eq_nil_of_le (by omega)];simp
 | succ f ih =>
  intro i o h1 h2 h3
  by_cases hlt:i < idsL.length
  ·have hl:idsL.length=27:=rfl
   have e:w64 ((i:Int) + 1)=((i + 1:Nat):Int):=by rw [xv0 (by omega) (by omega)];simp
   cases hb:forB idsL[i] k with
   | true =>
    have happ:appO 1 o (some [idsL[i]])=some (some (L o++[idsL[i]])):=by
     have:=xv21 (n:=1) (x:=o) (a:=idsL[i]) (l:=[]) (by simp [room];omega) (by simp [room];omega)
     simpa using this
    obtain ⟨o',h4,h5⟩:=ih (i + 1) (some (L o++[idsL[i]])) (by omega) hlt (by simp;omega)
    refine ⟨o',?_,?_⟩
    ·rw [yv700]
     simp only [fn181_l0,fn181_b0,xv2,xv1,List.getElem?_eq_getElem hlt,Option.bind_some,xv118,hb,if_true,happ,e]
     rw [if_pos (by rw [decide_eq_true_eq];omega)]
     exact h4
    ·rw [h5,xv2,List.drop_eq_getElem_cons hlt,List.filter_cons,if_pos hb];simp
   | false =>
    obtain ⟨o',h4,h5⟩:=ih (i + 1) o (by omega) hlt (by omega)
    refine ⟨o',?_,?_⟩
    ·rw [yv700]
     simp only [fn181_l0,fn181_b0,xv2,xv1,List.getElem?_eq_getElem hlt,Option.bind_some,xv118,hb,Bool.false_eq_true,if_false,e]
     rw [if_pos (by rw [decide_eq_true_eq];omega)]
     exact h4
    ·rw [h5,List.drop_eq_getElem_cons hlt,List.filter_cons,if_neg (by simp [hb])]
  ·refine ⟨o,?_,?_⟩
   ·rw [yv700]
    simp only [fn181_l0,fn181_b0,xv2]
    rw [if_neg (by rw [decide_eq_true_eq];omega)]
   ·rw [show idsL.drop i=[] from List.drop_eq_nil_of_le (by omega)];simp
def idsOf (k:Int):List UInt8:=idsL.filter (fun x=>forB x k)
theorem xv260:∀ k:Fin 16,(decide (idsOf ((k.val:Int) + 1)=[]))=(decide (k.val=11) || decide (k.val=12)):=by decide +kernel
theorem xv261:∀ x ∈ idsL,x ≠ 0∧1 ≤ typeT x∧typeT x ≤ 7∧(x=11->typeT x=4)∧(x=33->typeT x=2)∧(x=35->typeT x=2)∧(x=39->typeT x=3)∧(x=8->typeT x=5):=by decide +kernel
theorem xv60 {id:UInt8} {n:UInt32} {a b:List UInt8} (hr:xv20 id n a b=true) (h1:typeT id=1->n < 2) (h2:(id=11∨id=33∨id=35∨id=39)->n ≠ 0) (h3:id=8->nameB a=true):xv36 id n a b=true:=by
 rw [xv36,hr,Bool.true_and,valB]
 split
 ·rename_i h;exact decide_eq_true (h1 h)
 ·split
  ·rename_i h
   simp only [Bool.or_eq_true,decide_eq_true_eq] at h
   have:n ≠ 0:=h2 (by rcases h with ((h|h)|h)|h<;>simp [h])
   simp [this]
  ·split
   ·rename_i h;exact h3 h
   ·rfl
theorem xv333 (p:fn163) (k:Nat) (h1:1 ≤ k) (h16:k ≤ 16) :
 ∃ q,fn181 p (k:Int)=some q∧(decide (q.Id=0)=(decide (k=12) || decide (k=13)))∧(q.Id ≠ 0->forB q.Id k=true∧xv36 q.Id q.N q.A q.B=true∧q.A.length ≤ 100∧q.B.length ≤ 100):=by
 obtain ⟨o,ho,hL⟩:=xv201 (k:Int) 27 0 none (by decide) (by decide) (by decide)
 rw [show ((0:Nat):Int)=0 from rfl] at ho
 have hL:L o=idsOf k:=by rw [hL];rfl
 have hnone:=xv260 ⟨k - 1,by omega⟩
 rw [show (((k - 1:Nat):Int) + 1)=(k:Int) by omega] at hnone
 have hk:(decide (k - 1=11) || decide (k - 1=12))=(decide (k=12) || decide (k=13)):=by
  rw [show decide (k - 1=11)=decide (k=12) from decide_eq_decide.2 (by omega),show decide (k - 1=12)=decide (k=13) from decide_eq_decide.2 (by omega)]
 rw [hk] at hnone
 have ho':iter (fn181_l0 (k:Int) (some [(1:UInt8),(2:UInt8),(3:UInt8),(8:UInt8),(9:UInt8),(11:UInt8),(17:UInt8),(18:UInt8),(19:UInt8),(21:UInt8),(22:UInt8),(23:UInt8),(24:UInt8),(25:UInt8),(26:UInt8),(28:UInt8),(31:UInt8),(33:UInt8),(34:UInt8),(35:UInt8),(36:UInt8),(37:UInt8),(38:UInt8),(39:UInt8),(40:UInt8),(41:UInt8),(42:UInt8)])) (none,0)=some o:=ho
 simp only [fn181,fn180,Option.bind_some]
 rw [ho',Option.bind_some,hL]
 by_cases he:idsOf (k:Int)=[]
 ·rw [he] at hnone ⊢
  refine ⟨⟨0,0,[],[]⟩,by rw [if_pos (by decide)],?_,fun h=>absurd rfl h⟩
  rw [← hnone];decide
 ·have hlen:(idsOf (k:Int)).length ≠ 0:=fun e=>he (List.length_eq_zero_iff.1 e)
  have hlen2:(idsOf (k:Int)).length ≤ 27:=List.length_filter_le _ _
  have hm:p.Id.toNat % (idsOf (k:Int)).length < (idsOf (k:Int)).length:=Nat.mod_lt _ (by omega)
  have hc:=p.Id.toNat_lt
  rw [if_neg (by rw [decide_eq_true_eq];omega),chk_d (by omega),Option.bind_some,show w64 (p.Id.toNat:Int)=(p.Id.toNat:Int) from xv0 (by omega) (by omega),
   show ((p.Id.toNat:Int)).tmod ((idsOf (k:Int)).length:Int)=((p.Id.toNat % (idsOf (k:Int)).length:Nat):Int) by rw [Int.tmod_eq_emod_of_nonneg (by omega)];simp,xv1,List.getElem?_eq_getElem hm,Option.bind_some]
  have hmem:=List.getElem_mem hm
  generalize (idsOf (k:Int))[p.Id.toNat % (idsOf (k:Int)).length]=x at hmem ⊢
  simp only [idsOf,List.mem_filter] at hmem
  obtain ⟨hx,hfor⟩:=hmem
  obtain ⟨x0,t1,t7,i11,i33,i35,i39,i8⟩:=xv261 x hx
  have hz:decide (x=0)=(decide (k=12) || decide (k=13)):=by
   rw [← hnone,decide_eq_false x0,decide_eq_false he]
  rw [xv99,Option.bind_some]
  have hd2:chk (decide ((2:UInt32) ≠ 0))=some ():=by decide
  have hd3:chk (decide ((65535:UInt32) ≠ 0))=some ():=by decide
  have hd4:chk (decide ((268435455:UInt32) ≠ 0))=some ():=by decide
  have hex1:typeT x=1->¬ (x=11∨x=33∨x=35∨x=39):=by
   rintro c (h|h|h|h)
   ·rw [i11 h] at c;omega
   ·rw [i33 h] at c;omega
   ·rw [i35 h] at c;omega
   ·rw [i39 h] at c;omega
  by_cases c1:typeT x=1
  ·rw [if_pos (decide_eq_true c1),hd2,Option.bind_some]
   refine ⟨_,rfl,hz,fun _=>⟨hfor,?_,by simp,by simp⟩⟩
   have hm2:p.N % 2 < 2:=by rw [UInt32.lt_iff_toNat_lt,UInt32.toNat_mod];exact Nat.mod_lt _ (by decide)
   refine xv60 ?_ (fun _=>hm2) (fun h=>absurd h (hex1 c1)) (fun h=>by rw [i8 h] at c1;omega)
   rw [xv20,if_pos c1]
   have:p.N % 2 < 256:=by rw [UInt32.lt_iff_toNat_lt] at hm2 ⊢;exact Nat.lt_trans hm2 (by decide)
   simp [this]
  rw [if_neg (by simpa using c1)]
  by_cases c2:typeT x=2
  ·rw [if_pos (decide_eq_true c2),hd3,Option.bind_some]
   refine ⟨_,rfl,hz,fun _=>⟨hfor,?_,by simp,by simp⟩⟩
   have hm2:(1 + p.N % 65535).toNat=1 + p.N.toNat % 65535:=by
    rw [UInt32.toNat_add,UInt32.toNat_mod]
    show (1 + p.N.toNat % 65535) % 4294967296=_
    omega
   refine xv60 ?_ (fun h=>absurd h c1) (fun _ h=>?_) (fun h=>by rw [i8 h] at c2;omega)
   ·rw [xv20,if_neg c1,if_pos c2]
    have:1 + p.N % 65535 < 65536:=by rw [UInt32.lt_iff_toNat_lt,hm2];show _ < 65536;omega
    simp [this]
   ·have:=congrArg UInt32.toNat h
    rw [hm2] at this
    have h0:(0:UInt32).toNat=0:=rfl
    omega
  rw [if_neg (by simpa using c2)]
  by_cases c3:typeT x=3
  ·rw [if_pos (decide_eq_true c3)]
   have hr:∀ n,xv20 x n [] []=true:=fun n=>by rw [xv20,if_neg c1,if_neg c2,if_pos c3];rfl
   by_cases c39:x=39
   ·rw [if_pos (by simpa using c39)]
    by_cases hn:p.N=0
    ·rw [if_pos (by simpa using hn)]
     exact ⟨_,rfl,hz,fun _=>⟨hfor,xv60 (hr _) (fun h=>absurd h c1) (fun _=>(by decide:(7:UInt32) ≠ 0)) (fun h=>by rw [i8 h] at c3;omega),by simp,by simp⟩⟩
    ·rw [if_neg (by simpa using hn)]
     exact ⟨_,rfl,hz,fun _=>⟨hfor,xv60 (hr _) (fun h=>absurd h c1) (fun _ h=>hn h) (fun h=>by rw [i8 h] at c3;omega),by simp,by simp⟩⟩
   ·rw [if_neg (by simpa using c39)]
    refine ⟨_,rfl,hz,fun _=>⟨hfor,xv60 (hr _) (fun h=>absurd h c1) (fun h=>?_) (fun h=>by rw [i8 h] at c3;omega),by simp,by simp⟩⟩
    rcases h with h|h|h|h
    ·rw [i11 h] at c3;omega
    ·rw [i33 h] at c3;omega
    ·rw [i35 h] at c3;omega
    ·exact absurd h c39
  rw [if_neg (by simpa using c3)]
  by_cases c4:typeT x=4
  ·rw [if_pos (decide_eq_true c4),hd4,Option.bind_some]
   refine ⟨_,rfl,hz,fun _=>⟨hfor,?_,by simp,by simp⟩⟩
   have hm2:(1 + p.N % 268435455).toNat=1 + p.N.toNat % 268435455:=by
    rw [UInt32.toNat_add,UInt32.toNat_mod]
    show (1 + p.N.toNat % 268435455) % 4294967296=_
    omega
   refine xv60 ?_ (fun h=>absurd h c1) (fun _ h=>?_) (fun h=>by rw [i8 h] at c4;omega)
   ·rw [xv20,if_neg c1,if_neg c2,if_neg c3,if_pos c4]
    have:1 + p.N % 268435455 < 268435456:=by rw [UInt32.lt_iff_toNat_lt,hm2];show _ < 268435456;omega
    simp [this]
   ·have:=congrArg UInt32.toNat h
    rw [hm2] at this
    have h0:(0:UInt32).toNat=0:=rfl
    omega
  rw [if_neg (by simpa using c4)]
  have hno:(x=11∨x=33∨x=35∨x=39)->(0:UInt32) ≠ 0:=by
   intro h
   exfalso
   rcases h with h|h|h|h
   ·exact c4 (i11 h)
   ·exact c2 (i33 h)
   ·exact c2 (i35 h)
   ·exact c3 (i39 h)
  by_cases c5:typeT x=5
  ·rw [if_pos (decide_eq_true c5)]
   obtain ⟨m,q,m8,hq,hqe⟩:=xv134 p.A
   have hql:=hq.len
   rw [hqe,Option.bind_some]
   have hr:∀ a,good a=true->xv20 x 0 a []=true:=fun a h=>by rw [xv20,if_neg c1,if_neg c2,if_neg c3,if_neg c4,if_pos c5,h];rfl
   by_cases c8:x=8
   ·rw [if_pos (by simpa using c8)]
    obtain ⟨m',q',m8',hq',h0',hqe'⟩:=xv189 p.A
    have hql':=hq'.len
    rw [hqe',Option.bind_some]
    refine ⟨_,rfl,hz,fun _=>⟨hfor,xv60 (hr _ hq'.good) (fun h=>absurd h c1) hno (fun _=>?_),by show q'.length ≤ 100;omega,by simp⟩⟩
    have hw:wild q'=false:=xv94 fun b h=>⟨(hq'.bytes b h).2.1,(hq'.bytes b h).2.2.1⟩
    simp [nameB,h0',hq'.good,hw]
   ·rw [if_neg (by simpa using c8)]
    exact ⟨_,rfl,hz,fun _=>⟨hfor,xv60 (hr _ hq.good) (fun h=>absurd h c1) hno (fun h=>absurd h c8),by show q.length ≤ 100;omega,by simp⟩⟩
  rw [if_neg (by simpa using c5)]
  have h8:x ≠ 8:=fun h=>c5 (i8 h)
  by_cases c6:typeT x=6
  ·rw [if_pos (decide_eq_true c6)]
   have hcs:=xv105 p.A 9 (by omega)
   rw [show ((9:Nat):Int)=9 from rfl] at hcs
   rw [hcs,Option.bind_some]
   exact ⟨_,rfl,hz,fun _=>⟨hfor,xv60 (by rw [xv20,if_neg c1,if_neg c2,if_neg c3,if_neg c4,if_neg c5,if_pos c6];rfl) (fun h=>absurd h c1) hno (fun h=>absurd h h8),by show (p.A.take 9).length ≤ 100;simp;omega,by simp⟩⟩
  rw [if_neg (by simpa using c6)]
  have c7:typeT x=7:=by omega
  rw [if_pos (decide_eq_true c7)]
  obtain ⟨m,q,m8,hq,hqe⟩:=xv134 p.A
  obtain ⟨m',q',m8',hq',hqe'⟩:=xv134 p.B
  have hql:=hq.len
  have hql':=hq'.len
  rw [hqe,Option.bind_some,hqe',Option.bind_some]
  exact ⟨_,rfl,hz,fun _=>⟨hfor,xv60 (by rw [xv20,if_neg c1,if_neg c2,if_neg c3,if_neg c4,if_neg c5,if_neg c6,if_pos c7,hq.good,hq'.good];rfl) (fun h=>absurd h c1) hno (fun h=>absurd h h8),by show q.length ≤ 100;omega,by show q'.length ≤ 100;omega⟩⟩
end Go.Rv
namespace Go.Rv
open Go.Lib
theorem xv157 (x:List UInt8):∀ {l:List (List UInt8)},l ≠ []->js (l++[x])=js l++47::x
 | [],h=>absurd rfl h
 | [y],_=>rfl
 | y::z::l,_=>by
  rw [List.cons_append,xv63 y (by simp),xv63 y (by simp),xv157 x (by simp)]
  simp
theorem xv262 {m:Nat}:∀ {l:List (List UInt8)},(∀ x ∈ l,x.length ≤ m)->(js l).length ≤ l.length * (m + 1)
 | [],_=>by simp [js]
 | [x],h=>by have:=h x (by simp);simp [js];omega
 | x::y::l,h=>by
  rw [xv63 x (by simp)]
  have h1:=h x (by simp)
  have h2:=xv262 (l:=y::l) (fun z hz=>h z (by simp [hz]))
  simp only [List.length_append,List.length_cons,Nat.add_mul] at h2 ⊢
  omega
theorem xv196 {a b:List UInt8} (ha:a.length ≤ 100000) (hb:b.length ≤ 100000):catS a b=some (a++b):=by
 simp only [catS];rw [if_pos (by omega)]
theorem take7 {f:List UInt8} (h:∀ b ∈ f,b ≠ 115):f.take 7 ≠ shP:=by
 intro e
 have h1:(115:UInt8) ∈ f.take 7:=by rw [e];decide
 exact h 115 (List.mem_of_mem_take h1) rfl
theorem xv206 {s:List UInt8} (h:s ≠ []) (hp:xv40 (lv s)=true):xv74 s=true:=by simp [xv74,h,hp]
def FG:List (List UInt8):=[[97],[43],[98],[],[99],[97],[43],[98]]
theorem xv149 (x:List UInt8) (h:x ∈ FG):x.length ≤ 1∧47 ∉ x∧(x=[43]∨wild x=false)∧x ≠ [35]∧good x=true∧(∀ b ∈ x,b ≠ 115∧b ≠ 35):=by
 have:∀ x ∈ FG,x.length ≤ 1∧47 ∉ x∧(x=[43]∨wild x=false)∧x ≠ [35]∧good x=true∧(∀ b ∈ x,b ≠ 115∧b ≠ 35):=by decide +kernel
 exact this x h
theorem xv294 (s:List UInt8):∀ (f i:Nat) (M:List (List UInt8)),f + i=6->M.length ≤ i->(∀ x ∈ M,x ∈ FG) ->
 ∃ M',M'.length ≤ 6∧(∀ x ∈ M',x ∈ FG)∧iter (fn58_l0 s (some FG)) (js ([116]::M),(i:Int))=some (js ([116]::M')):=by
 intro f
 induction f with
 | zero =>
  intro i M hi hn hM
  refine ⟨M,by omega,hM,?_⟩
  rw [yv700]
  simp only [fn58_l0,fn58_b0]
  by_cases h:i < s.length
  ·rw [if_pos (by simp;omega),if_neg (by simp;omega)]
  ·rw [if_neg (by simp;omega)]
 | succ f ih =>
  intro i M hi hn hM
  by_cases h:i < s.length
  ·have hc:=s[i].toNat_lt
   have hm:s[i].toNat % 8 < FG.length:=by
    show _ < 8;omega
   have hw:FG[s[i].toNat % 8] ∈ FG:=List.getElem_mem hm
   obtain ⟨M',h1,h2,h3⟩:=ih (i + 1) (M++[FG[s[i].toNat % 8]]) (by omega) (by simp;omega) (fun x hx=>by
    rcases List.mem_append.1 hx with hx|hx
    ·exact hM x hx
    ·simp at hx;rw [hx];exact hw)
   refine ⟨M',h1,h2,?_⟩
   rw [yv700]
   simp only [fn58_l0,fn58_b0]
   have e0:w64 (s[i].toNat:Int)=(s[i].toNat:Int):=xv0 (by omega) (by omega)
   have e1:((s[i].toNat:Int)).tmod 8=((s[i].toNat % 8:Nat):Int):=by
    rw [Int.tmod_eq_emod_of_nonneg (by omega)];simp
   have e2:ix (L (some FG)) ((s[i].toNat % 8:Nat):Int)=some (FG[s[i].toNat % 8]):=by
    rw [xv1];exact List.getElem?_eq_getElem hm
   have ew:w64 ((i:Int) + 1)=((i + 1:Nat):Int):=by rw [xv0 (by omega) (by omega)];simp
   have hb:(js ([116]::M)).length ≤ 7 * 2:=by
    have:=xv262 (l:=[116]::M) (m:=1) (fun x hx=>by
     rcases List.mem_cons.1 hx with rfl|hx
     ·simp
     ·exact (xv149 x (hM x hx)).1)
    refine Nat.le_trans this (Nat.mul_le_mul_right _ ?_)
    simp;omega
   have hl2:=(xv149 _ hw).1
   have ej:js ([116]::(M++[FG[s[i].toNat % 8]]))=js ([116]::M)++[47]++FG[s[i].toNat % 8]:=by
    rw [← List.cons_append,xv157 _ (by simp)];simp
   rw [ej] at h3
   rw [if_pos (by simp;omega),if_pos (by simp;omega),xv196 (by omega) (by simp),Option.bind_some,xv1,List.getElem?_eq_getElem h,Option.bind_some,e0,e1]
   rw [show chk (decide (8 ≠ 0))=some () from rfl,Option.bind_some,e2,Option.bind_some,xv196 (by simp;omega) (by omega),Option.bind_some,ew]
   exact h3
  ·refine ⟨M,by omega,hM,?_⟩
   rw [yv700]
   simp only [fn58_l0,fn58_b0]
   rw [if_neg (by simp;omega)]
def TL (t:List (List UInt8)):Prop:=t=[]∨t=[[35]]
def FF (F:List UInt8):Prop:=F.length ≤ 60∧(F=[35]∨∃ M t,M.length ≤ 6∧(∀ x ∈ M,x ∈ FG)∧TL t∧(F=js ([116]::(M++t))∨F=shP++([103]++47::js ([116]::(M++t)))))
theorem ff_c2 (a F:List UInt8) (h:FF F):∃ G,FF G∧fn58_c2 a F (fun x=>some x)=some G:=by
 simp only [fn58_c2]
 by_cases h2:2 < a.length
 ·rw [if_pos (by simp;omega)]
  have:=xv1 (l:=a) (i:=2)
  rw [show ((2:Nat):Int)=2 from rfl,List.getElem?_eq_getElem h2] at this
  rw [this,Option.bind_some]
  split
  ·exact ⟨[35],⟨by simp,.inl rfl⟩,rfl⟩
  ·exact ⟨F,h,rfl⟩
 ·rw [if_neg (by simp;omega)];exact ⟨F,h,rfl⟩
theorem ff_c1 (a F:List UInt8) (hl:F.length ≤ 50) (h:∃ M t,M.length ≤ 6∧(∀ x ∈ M,x ∈ FG)∧TL t∧F=js ([116]::(M++t))):∃ G,FF G∧fn58_c1 a F (fun x=>some x)=some G:=by
 have h0:FF F:=⟨by omega,.inr (h.imp fun M ⟨t,a,b,d,c⟩=>⟨t,a,b,d,.inl c⟩)⟩
 simp only [fn58_c1]
 by_cases h2:1 < a.length
 ·rw [if_pos (by simp;omega)]
  have:=xv1 (l:=a) (i:=1)
  rw [show ((1:Nat):Int)=1 from rfl,List.getElem?_eq_getElem h2] at this
  rw [this,Option.bind_some]
  split
  ·rw [xv196 (by simp) (by omega),Option.bind_some]
   obtain ⟨M,t,a',b,d,rfl⟩:=h
   exact ff_c2 a _ ⟨by simp;omega,.inr ⟨M,t,a',b,d,.inr rfl⟩⟩
  ·exact ff_c2 a F h0
 ·rw [if_neg (by simp;omega)];exact ff_c2 a F h0
theorem ff_eq (a:List UInt8):∃ F,FF F∧fn58 a=some F:=by
 obtain ⟨M,h1,h2,h3⟩:=xv294 a 6 0 [] rfl (Nat.le_refl _) (by simp)
 rw [show (((0:Nat):Int))=0 from rfl] at h3
 have h4:iter (fn58_l0 a (some [[97],[43],[98],[],[99],[97],[43],[98]])) ([116],0)=some (js ([116]::M)):=h3
 have hb:(js ([116]::M)).length ≤ 7 * 2:=by
  have:=xv262 (l:=[116]::M) (m:=1) (fun x hx=>by
   rcases List.mem_cons.1 hx with rfl|hx
   ·simp
   ·exact (xv149 x (h2 x hx)).1)
  refine Nat.le_trans this (Nat.mul_le_mul_right _ ?_)
  simp;omega
 have ea:js ([116]::M)++[47,35]=js ([116]::(M++[[35]])):=by
  rw [← List.cons_append,xv157 _ (by simp)]
 have e0:js ([116]::M)=js ([116]::(M++[])):=by rw [List.append_nil]
 simp only [fn58,h4,Option.bind_some]
 by_cases h0:0 < a.length
 ·rw [if_pos (by simp;omega)]
  have:=xv1 (l:=a) (i:=0)
  rw [show ((0:Nat):Int)=0 from rfl,List.getElem?_eq_getElem h0] at this
  rw [this,Option.bind_some]
  split
  ·rw [xv196 (a:=js ([116]::M)) (by omega) (by simp),Option.bind_some]
   exact ff_c1 a (js ([116]::M)++[47,35]) (by rw [List.length_append];simp only [List.length_cons,List.length_nil];omega) ⟨M,_,h1,h2,.inr rfl,ea⟩
  ·exact ff_c1 a (js ([116]::M)) (by omega) ⟨M,_,h1,h2,.inl rfl,e0⟩
 ·rw [if_neg (by rw [decide_eq_true_eq];omega)]
  exact ff_c1 a (js ([116]::M)) (by omega) ⟨M,_,h1,h2,.inl rfl,e0⟩
theorem ff_js {M t:List (List UInt8)} (h1:∀ x ∈ M,x ∈ FG) (ht:TL t):good (js ([116]::(M++t)))=true∧xv74 (js ([116]::(M++t)))=true∧∀ b ∈ js ([116]::(M++t)),b ≠ 115:=by
 have hx:∀ x ∈ [116]::(M++t),good x=true∧47 ∉ x∧∀ b ∈ x,b ≠ 115:=by
  intro x hx
  rcases List.mem_cons.1 hx with rfl|hx
  ·exact ⟨by kernel_rfl,by decide,by decide⟩
  ·rcases List.mem_append.1 hx with hx|hx
   ·have:=xv149 x (h1 x hx)
    exact ⟨this.2.2.2.2.1,this.2.1,fun b hb=>(this.2.2.2.2.2 b hb).1⟩
   ·rcases ht with rfl|rfl
    ·cases hx
    ·simp at hx;subst hx;exact ⟨by kernel_rfl,by decide,by decide⟩
 have hne:([116]::(M++t)) ≠ []:=by simp
 refine ⟨xv221 (fun x h=>(hx x h).1),xv206 ?_ ?_,?_⟩
 ·intro e
  have:=lv_js hne (fun x h=>(hx x h).2.1)
  rw [e] at this
  simp [lv] at this
 ·rw [lv_js hne (fun x h=>(hx x h).2.1)]
  have hp:∀ x ∈ [116]::M,x=[43]∨wild x=false:=by
   intro x hx
   rcases List.mem_cons.1 hx with rfl|hx
   ·exact .inr (by decide)
   ·exact (xv149 x (h1 x hx)).2.2.1
  rcases ht with rfl|rfl
  ·rw [List.append_nil];exact xv159 hp
  ·have:=xv79 hp
   simpa using this
 ·intro b hb
  rcases xv305 hb with rfl|⟨x,hx',hbx⟩
  ·decide
  ·exact (hx x hx').2.2 b hbx
theorem xv199 {F:List UInt8} (h:FF F):xv12 F=true:=by
 rcases h.2 with rfl|⟨M,t,_,h2,h3,h4⟩
 ·decide +kernel
 ·obtain ⟨g1,g2,g3⟩:=ff_js h2 h3
  rcases h4 with rfl|rfl
  ·simp only [xv12,g1,Bool.true_and,shr]
   rw [if_neg (take7 g3)]
   exact g2
  ·have e1:(shP++([103]++47::js ([116]::(M++t)))).take 7=shP:=by
    rw [List.take_append_of_le_length (by decide)];rfl
   have e2:(shP++([103]++47::js ([116]::(M++t)))).drop 7=[103]++47::js ([116]::(M++t)):=by
    rw [List.drop_append_of_le_length (by decide)];rfl
   have eg:good (shP++([103]++47::js ([116]::(M++t))))=true:=by
    refine xv93 (by kernel_rfl) (xv93 (by kernel_rfl) ?_)
    rw [xv298];exact g1
   simp only [xv12,eg,Bool.true_and,shr]
   rw [if_pos e1,e2,xv251 _ _ (by decide)]
   simp only [shrF,g2,Bool.and_true]
   decide
end Go.Rv
namespace Go.Rv
open Go.Lib
theorem xv190 (v k:Int):∀ (f i:Nat) (o:Option (List UInt8)),256 - i ≤ f->i ≤ 256->(L o).length ≤ i->(∀ x ∈ L o,knB v k x=true) ->
 ∃ o',iter (fn178_l0 v k) (o,(i:Int))=some o'∧(L o').length ≤ 256∧(∀ x ∈ L o',knB v k x=true)∧(∀ x ∈ L o,x ∈ L o')∧∀ j,i ≤ j->j < 256->knB v k (u8 (j:Int))=true->u8 (j:Int) ∈ L o':=by
 intro f
 induction f with
 | zero =>
  intro i o h1 h2 h3 h4
  refine ⟨o,?_,by omega,h4,fun _ h=>h,fun j _ _=>by omega⟩
  rw [yv700]
  simp only [fn178_l0,fn178_b0]
  rw [if_neg (by rw [decide_eq_true_eq];omega)]
 | succ f ih =>
  intro i o h1 h2 h3 h4
  by_cases hlt:i < 256
  ·have e:w64 ((i:Int) + 1)=((i + 1:Nat):Int):=xv3 (by omega)
   cases hb:knB v k (u8 (i:Int)) with
   | true =>
    have happ:appO 1 o (some [u8 (i:Int)])=some (some (L o++[u8 (i:Int)])):=by
     have:=xv21 (n:=1) (x:=o) (a:=u8 (i:Int)) (l:=[]) (by simp [room];omega) (by simp [room];omega)
     simpa using this
    obtain ⟨o',k1,k2,k3,k4,k5⟩:=ih (i + 1) (some (L o++[u8 (i:Int)])) (by omega) hlt (by simp;omega) (fun x hx=>by
     simp at hx
     rcases hx with hx|rfl
     ·exact h4 x hx
     ·exact hb)
    refine ⟨o',?_,k2,k3,fun x hx=>k4 x (by simp [hx]),fun j h5 h6 h7=>?_⟩
    ·rw [yv700]
     simp only [fn178_l0,fn178_b0,xv42,Option.bind_some,hb,if_true,happ,e]
     rw [if_pos (by rw [decide_eq_true_eq];omega)]
     exact k1
    ·by_cases hj:j=i
     ·subst hj;exact k4 _ (by simp)
     ·exact k5 j (by omega) h6 h7
   | false =>
    obtain ⟨o',k1,k2,k3,k4,k5⟩:=ih (i + 1) o (by omega) hlt (by omega) h4
    refine ⟨o',?_,k2,k3,k4,fun j h5 h6 h7=>?_⟩
    ·rw [yv700]
     simp only [fn178_l0,fn178_b0,xv42,Option.bind_some,hb,Bool.false_eq_true,if_false,e]
     rw [if_pos (by rw [decide_eq_true_eq];omega)]
     exact k1
    ·by_cases hj:j=i
     ·subst hj;rw [hb] at h7;cases h7
     ·exact k5 j (by omega) h6 h7
  ·refine ⟨o,?_,by omega,h4,fun _ h=>h,fun j _ _=>by omega⟩
   rw [yv700]
   simp only [fn178_l0,fn178_b0]
   rw [if_neg (by rw [decide_eq_true_eq];omega)]
theorem xv166 (v k:Int) (c:UInt8):∃ d,fn179 v k c=some d∧(knB v k 0=true->knB v k d=true):=by
 obtain ⟨o,h1,h2,h3,_,h5⟩:=xv190 v k 256 0 none (by decide) (by decide) (by decide) (by simp)
 rw [show ((0:Nat):Int)=0 from rfl] at h1
 have ha:fn178 v k=some o:=by simp only [fn178,h1,Option.bind_some]
 simp only [fn179,ha,Option.bind_some]
 by_cases he:(L o).length=0
 ·refine ⟨0,by rw [if_pos (by rw [decide_eq_true_eq];omega)],fun h=>h⟩
 ·have hm:c.toNat % (L o).length < (L o).length:=Nat.mod_lt _ (by omega)
  have hc:=c.toNat_lt
  rw [if_neg (by rw [decide_eq_true_eq];omega),chk_d (by omega),Option.bind_some,show w64 (c.toNat:Int)=(c.toNat:Int) from xv0 (by omega) (by omega),
   show ((c.toNat:Int)).tmod ((L o).length:Int)=((c.toNat % (L o).length:Nat):Int) by rw [Int.tmod_eq_emod_of_nonneg (by omega)];simp,xv1,List.getElem?_eq_getElem hm,Option.bind_some]
  exact ⟨_,rfl,fun _=>h3 _ (List.getElem_mem hm)⟩
theorem kn0 {v k:Int} (h:(v=4∧(k=2∨k=4∨k=5∨k=6∨k=7∨k=9∨k=14))∨(v=5∧(k=2∨k=4∨k=5∨k=6∨k=7∨k=9∨k=11∨k=14∨k=15))):knB v k 0=true:=by
 have key:∀ v k,r03N v k 0=some true->knB v k 0=true:=fun v k h=>by
  have:=xv311 h
  rw [xv42] at this
  exact Option.some.inj this
 rcases h with ⟨rfl,h⟩|⟨rfl,h⟩
 ·rcases h with rfl|rfl|rfl|rfl|rfl|rfl|rfl<;>exact key _ _ (by kernel_rfl)
 ·rcases h with rfl|rfl|rfl|rfl|rfl|rfl|rfl|rfl|rfl<;>exact key _ _ (by kernel_rfl)
end Go.Rv
namespace Go.Rv
open Go.Lib
def DupP (k:Int) (a b:fn163):Prop:=a.Id=b.Id->xv45 a.Id k=true
theorem DupP.symm {k:Int} {a b:fn163} (h:DupP k a b):DupP k b a:=fun e=>by rw [e];exact h e.symm
structure OneP (k:Int) (p:fn163):Prop where
 f:forB p.Id k=true
 v:xv36 p.Id p.N p.A p.B=true
 a:p.A.length ≤ 100
 b:p.B.length ≤ 100
structure ManyP (k:Int) (l:List fn163):Prop where
 one:∀ p ∈ l,OneP k p
 dup:l.Pairwise (DupP k)
theorem xv62 {l:List fn163} {id:UInt8}:hasId l id=true ↔ ∃ a ∈ l,a.Id=id:=by
 simp only [hasId,List.any_eq_true,decide_eq_true_eq]
theorem ManyP.perm {k:Int} {l m:List fn163} (h:ManyP k l) (p:m.Perm l):ManyP k m :=
 ⟨fun x hx=>h.one x (p.mem_iff.1 hx),(p.pairwise_iff (fun h=>DupP.symm h)).2 h.dup⟩
theorem xv69 {l m:List fn163} (p:m.Perm l) (id:UInt8):hasId m id=hasId l id:=by
 rw [Bool.eq_iff_iff,xv62,xv62]
 exact ⟨fun ⟨a,h,e⟩=>⟨a,p.mem_iff.1 h,e⟩,fun ⟨a,h,e⟩=>⟨a,p.mem_iff.2 h,e⟩⟩
theorem xv216 (k:Int):∀ (l:List fn163) (prev:Option fn163),ManyP k l->SrtP l->(∀ b,prev=some b->∀ a ∈ l,b.Id ≤ a.Id∧DupP k b a)->chkL k prev l=true
 | [],_,_,_,_=>rfl
 | a::l,prev,hm,hs,hp=>by
  have h1:=hm.one a (by simp)
  obtain ⟨s1,s2⟩:=List.pairwise_cons.1 hs
  obtain ⟨d1,d2⟩:=List.pairwise_cons.1 hm.dup
  have ih:=xv216 k l (some a) ⟨fun p hp=>hm.one p (by simp [hp]),d2⟩ s2 (fun b hb x hx=>by cases hb;exact ⟨s1 x hx,d1 x hx⟩)
  simp only [chkL,ih,Bool.and_true,chk1,h1.f,h1.v,Bool.true_and]
  cases prev with
  | none=>rfl
  | some b =>
   obtain ⟨q1,q2⟩:=hp b rfl a (by simp)
   have:¬ b.Id > a.Id:=UInt8.not_lt.2 q1
   simp only [ordB,decide_eq_false this,Bool.not_false,Bool.true_and]
   by_cases e:b.Id=a.Id
   ·rw [decide_eq_true e]
    have:=q2 e
    rw [e] at this
    simp [this]
   ·rw [decide_eq_false e];rfl
theorem xv146 {k:Int} {l:List fn163} (hm:ManyP k l) (hs:SrtP l) (hl:l.length ≤ 1024) (h:hasId l 21=true∨hasId l 22=false):xv5 k l=true:=by
 have h1:¬ l.length > 1024:=by omega
 simp only [xv5,decide_eq_false h1,xv216 k l none hm hs (fun b hb=>by cases hb),Bool.not_false,Bool.true_and]
 rcases h with h|h<;>simp [h]
theorem ManyP.snoc {k:Int} {l:List fn163} {q:fn163} (h:ManyP k l) (hq:OneP k q) (hd:hasId l q.Id=true->xv45 q.Id k=true):ManyP k (l++[q]):=by
 refine ⟨fun p hp=>?_,List.pairwise_append.2 ⟨h.dup,List.pairwise_singleton _ _,fun a ha b hb e=>?_⟩⟩
 ·rcases List.mem_append.1 hp with hp|hp
  ·exact h.one p hp
  ·simp at hp;rw [hp];exact hq
 ·simp at hb;subst hb
  rw [e]
  exact hd (xv62.2 ⟨a,ha,e⟩)
theorem xv88 {o:Option (List fn163)} {q:fn163} (h:(L o).length ≤ 100):appO 40 o (some [q])=some (some (L o++[q])):=by
 have:=xv21 (n:=40) (x:=o) (a:=q) (l:=[]) (by simp [room];omega) (by simp [room];omega)
 simpa using this
theorem xv293 (o:Option (List fn163)) (k:Nat) (h1:1 ≤ k) (h16:k ≤ 16):∀ (f i:Nat) (x:Option (List fn163)),f + i=8->(L x).length ≤ i->ManyP (k:Int) (L x) ->
 (∃ q,iter (fn182_l0 o (k:Int)) (x,(i:Int))=some (.inl q))∨∃ x',iter (fn182_l0 o (k:Int)) (x,(i:Int))=some (.inr x')∧(L x').length ≤ 8∧ManyP (k:Int) (L x'):=by
 intro f
 induction f with
 | zero =>
  intro i x hi hl hm
  refine .inr ⟨x,?_,by omega,hm⟩
  rw [yv700]
  simp only [fn182_l0,fn182_b0]
  by_cases h:i < (L o).length
  ·rw [if_pos (by simp;omega),if_neg (by simp;omega)]
  ·rw [if_neg (by simp;omega)]
 | succ f ih =>
  intro i x hi hl hm
  by_cases h:i < (L o).length
  ·obtain ⟨q,hq,_,hok⟩:=xv333 (L o)[i] k h1 h16
   have e:w64 ((i:Int) + 1)=((i + 1:Nat):Int):=xv3 (by omega)
   have e8:decide ((i:Int) < 8)=true:=by rw [decide_eq_true_eq];omega
   by_cases h0:q.Id=0
   ·refine .inl ⟨q,?_⟩
    rw [yv700]
    simp only [fn182_l0,fn182_b0,xv1,List.getElem?_eq_getElem h,Option.bind_some,hq,e8,if_true]
    rw [if_pos (by simp;omega),if_pos (by simpa using h0)]
   ·obtain ⟨q1,q2,q3,q4⟩:=hok h0
    have hone:OneP (k:Int) q:=⟨q1,q2,q3,q4⟩
    have hg:=xv41 x q.Id (by omega)
    have hg2:=xv52 (L x) q.Id
    rcases hgn:getN (L x) q.Id with ⟨g1,g2⟩
    rw [hgn] at hg hg2
    simp only at hg2
    have step:∀ x',(L x').length ≤ i + 1->ManyP (k:Int) (L x')->fn182_l0 o (k:Int) (x,(i:Int))=some (.inl (x',((i + 1:Nat):Int))) ->
     (∃ q,iter (fn182_l0 o (k:Int)) (x,(i:Int))=some (.inl q))∨∃ x',iter (fn182_l0 o (k:Int)) (x,(i:Int))=some (.inr x')∧(L x').length ≤ 8∧ManyP (k:Int) (L x'):=by
     intro x' hx1 hx2 hx3
     have he:iter (fn182_l0 o (k:Int)) (x,(i:Int))=iter (fn182_l0 o (k:Int)) (x',((i + 1:Nat):Int)):=by rw [yv700,hx3]
     rw [he]
     exact ih (i + 1) x' (by omega) hx1 hx2
    have hstep:fn182_l0 o (k:Int) (x,(i:Int))=(if g2=true then (if (!xv45 q.Id (k:Int))=true then some (.inl (x,((i + 1:Nat):Int))) else some (.inl (some (L x++[q]),((i + 1:Nat):Int)))) else some (.inl (some (L x++[q]),((i + 1:Nat):Int)))):=by
     simp only [fn182_l0,fn182_b0,xv1,List.getElem?_eq_getElem h,Option.bind_some,hq,e8,if_true]
     rw [if_pos (by simp;omega),if_neg (by simpa using h0),hg]
     simp only [Option.bind_some,xv119,xv88 (q:=q) (show (L x).length ≤ 100 by omega),e]
    cases g2 with
    | false =>
     refine step (some (L x++[q])) (by simp;omega) ?_ (by rw [hstep];simp)
     exact hm.snoc hone (fun hh=>by rw [← hg2] at hh;cases hh)
    | true =>
     cases ho:xv45 q.Id (k:Int) with
     | false=>exact step x (by omega) hm (by rw [hstep,ho];simp)
     | true =>
      refine step (some (L x++[q])) (by simp;omega) ?_ (by rw [hstep,ho];simp)
      exact hm.snoc hone (fun _=>ho)
  ·refine .inr ⟨x,?_,by omega,hm⟩
   rw [yv700]
   simp only [fn182_l0,fn182_b0]
   rw [if_neg (by simp;omega)]
theorem xv203:∀ k:Fin 17,forB 22 (k.val:Int)=true->forB 21 (k.val:Int)=true:=by decide +kernel
theorem val21 (a:List UInt8) (h:good a=true):xv36 21 0 a []=true:=by
 have:typeT 21=5:=by decide +kernel
 simp [xv36,xv20,valB,this,h]
theorem xv167 (o:Option (List fn163)) (k:Nat) (h1:1 ≤ k) (h16:k ≤ 16) :
 ∃ r,fn182 o (k:Int)=some r∧(L r).length ≤ 9∧ManyP (k:Int) (L r)∧SrtP (L r)∧(hasId (L r) 21=true∨hasId (L r) 22=false):=by
 have sorted:∀ x:Option (List fn163),(L x).length ≤ 9->ManyP (k:Int) (L x)->(hasId (L x) 21=true∨hasId (L x) 22=false) ->
  ∃ r,fn182_c2 x (fun x=>some x)=some r∧(L r).length ≤ 9∧ManyP (k:Int) (L r)∧SrtP (L r)∧(hasId (L r) 21=true∨hasId (L r) 22=false):=by
  intro x hl hm hh
  obtain ⟨l',s1,s2,s3⟩:=xv176 x (by omega)
  refine ⟨some l',by simp only [fn182_c2,s1,Option.bind_some],?_,hm.perm s3,s2,?_⟩
  ·rw [xv2,s3.length_eq];exact hl
  ·rw [xv2,xv69 s3,xv69 s3];exact hh
 rcases xv293 o k h1 h16 8 0 none rfl (by simp) ⟨by simp,by simp⟩ with ⟨q,hq⟩|⟨x,hx,hl,hm⟩
 ·rw [show ((0:Nat):Int)=0 from rfl] at hq
  refine ⟨none,by simp only [fn182,hq,Option.bind_some],by simp,⟨by simp,by simp⟩,by simp,.inr rfl⟩
 ·rw [show ((0:Nat):Int)=0 from rfl] at hx
  have hg:=xv41 x 22 (by omega)
  have hg2:=xv52 (L x) 22
  rcases hgn:getN (L x) 22 with ⟨a1,a2⟩
  have hf:=xv41 x 21 (by omega)
  have hf2:=xv52 (L x) 21
  rcases hfn:getN (L x) 21 with ⟨b1,b2⟩
  rw [hgn] at hg hg2
  rw [hfn] at hf hf2
  simp only at hg2 hf2
  simp only [fn182,hx,Option.bind_some,hg]
  cases a2 with
  | false =>
   obtain ⟨r,r1,r2⟩:=sorted x (by omega) hm (.inr hg2.symm)
   exact ⟨r,by simpa using r1,r2⟩
  | true =>
   simp only [if_true,hf,Option.bind_some]
   cases b2 with
   | true =>
    obtain ⟨r,r1,r2⟩:=sorted x (by omega) hm (.inl hf2.symm)
    exact ⟨r,by simpa using r1,r2⟩
   | false =>
    obtain ⟨m,w,m8,hw,hwe⟩:=xv134 [109]
    have hwl:=hw.len
    simp only [Bool.not_false,if_true,hwe,Option.bind_some,xv88 (q:=(⟨21,0,w,[]⟩:fn163)) (show (L x).length ≤ 100 by omega)]
    obtain ⟨p,hp,he⟩:=xv62.1 hg2.symm
    have h22:=(hm.one p hp).f
    rw [he] at h22
    have h21:=xv203 ⟨k,by omega⟩ h22
    exact sorted (some (L x++[⟨21,0,w,[]⟩])) (by simp;omega)
     (hm.snoc ⟨h21,val21 w hw.good,by show w.length ≤ 100;omega,by simp⟩ (fun hh=>by rw [show (⟨21,0,w,[]⟩:fn163).Id=21 from rfl,← hf2] at hh;cases hh))
     (.inl (xv62.2 ⟨⟨21,0,w,[]⟩,by simp,rfl⟩))
end Go.Rv
namespace Go.Rv
open Go.Lib
structure FixP (v:Int) (x:fn113):Prop where
 hv:v=4∨v=5
 kd:1 ≤ x.Kind∧x.Kind ≤ 15∧(v=4->x.Kind ≤ 14)
 cl:good x.Client=true∧x.Client.length ≤ 40
 us:good x.User=true∧x.User.length ≤ 40
 tp:(nameB x.Topic=true∨(v=5∧x.Topic=[]∧hasId (L x.Props) 35=true))∧x.Topic.length ≤ 40∧good x.Topic=true
 wt:nameB x.WillTopic=true∧x.WillTopic.length ≤ 40∧good x.WillTopic=true
 sz:x.Pass.length ≤ 9∧x.WillLoad.length ≤ 9∧x.Load.length ≤ 40
 q:¬ x.QoS > 2
 wq:¬ x.WillQoS > 2
 dup:x.Dup=true->x.QoS ≠ 0
 id3:x.Kind=3->(x.Id=0 ↔ x.QoS=0)
 id0:x.Kind ≠ 3->x.Id ≠ 0
 hp:v=4->x.HasPass=true->x.HasUser=true
 cln:v=4->x.Client=[]->x.Clean=true
 code:knB v x.Kind 0=true->knB v x.Kind x.Code=true
 pres:x.Present=true->x.Code=0
 pc:xv5 x.Kind (L x.Props)=true
 pl:(L x.Props).length ≤ 20
 ps:∀ a ∈ L x.Props,a.A.length ≤ 100∧a.B.length ≤ 100
 p4:v=4->L x.Props=[]
 wc:xv5 16 (L x.WillProps)=true
 wl:(L x.WillProps).length ≤ 20
 ws:∀ a ∈ L x.WillProps,a.A.length ≤ 100∧a.B.length ≤ 100
 w4:v=4->L x.WillProps=[]
 auth:x.Kind=15->hasId (L x.Props) 21=true
 fl:1 ≤ (L x.Filters).length∧(L x.Filters).length ≤ 20
 ft:∀ f ∈ L x.Filters,f.Text.length ≤ 100
 fw:x.Kind=8∨x.Kind=10->∀ f ∈ L x.Filters,wantN v x.Kind f=true
 cdl:(L x.Codes).length ≤ 20
 cd:x.Kind=9∨(x.Kind=11∧v=5)->1 ≤ (L x.Codes).length∧∀ c ∈ L x.Codes,knB v x.Kind c=true
 cd4:v=4->x.Kind=11->(L x.Codes).length=0
theorem xv332 {p:fn113} (h:FewR (nR p)):FewR p:=⟨h.wp,h.pp,h.fl,h.tx,h.ft,h.pt,h.wt⟩
theorem xv7 (k:Int):xv5 k []=true:=rfl
theorem xv78 {s:List UInt8} (h:good s=true) (hl:s.length ≤ 40):textB s=true:=by
 have:s.length ≤ 65535:=by omega
 simp [textB,h,this]
theorem xv231 {v:Int} {x:fn113} (h:FixP v x):FewR (bareN (nR x)):=by
 obtain ⟨hv,kd,cl,us,tp,wt,sz,q,wq,dup,id3,id0,hp,cln,code,pres,pc,pl,ps,p4,wc,wl,ws,w4,auth,fl,ft,fw,cdl,cd,cd4⟩:=h
 have hps:∀ a ∈ L x.Props,a.A.length ≤ 300∧a.B.length ≤ 300:=fun a ha=>⟨by have:=ps a ha;omega,by have:=ps a ha;omega⟩
 have hws:∀ a ∈ L x.WillProps,a.A.length ≤ 300∧a.B.length ≤ 300:=fun a ha=>⟨by have:=ws a ha;omega,by have:=ws a ha;omega⟩
 have hft:∀ f ∈ L x.Filters,f.Text.length ≤ 300:=fun f hf=>by have:=ft f hf;omega
 have n0:∀ (l:List fn163),∀ a ∈ ([]:List fn163),a.A.length ≤ 300∧a.B.length ≤ 300:=fun _ a ha=>by cases ha
 simp only [bareN]
 by_cases k1:(nR x).Kind=1
 ·rw [if_pos k1]
  refine ⟨?_,?_,?_,?_,?_,?_,?_⟩
  ·by_cases hw:x.HasWill=true<;>simp [nR,hw]<;>omega
  ·simp only [nR,xv2];omega
  ·simp
  ·by_cases hw:x.HasWill=true<;>by_cases hu:x.HasUser=true<;>by_cases hp':x.HasPass=true<;>simp [nR,hw,hu,hp']<;>omega
  ·simp
  ·simpa only [nR,xv2] using hps
  ·by_cases hw:x.HasWill=true
   ·simpa [nR,hw] using hws
   ·simp [nR,hw]
 rw [if_neg k1]
 by_cases k2:(nR x).Kind=2
 ·rw [if_pos k2];exact ⟨by simp [z0],by simp only [z0,nR,xv2];omega,by simp [z0],by simp [z0],by simp [z0],by simpa only [z0,nR,xv2] using hps,by simp [z0]⟩
 rw [if_neg k2]
 by_cases k3:(nR x).Kind=3
 ·rw [if_pos k3];exact ⟨by simp [z0],by simp only [z0,nR,xv2];omega,by simp [z0],by simp [z0,nR];omega,by simp [z0],by simpa only [z0,nR,xv2] using hps,by simp [z0]⟩
 rw [if_neg k3]
 by_cases k4:(nR x).Kind=4∨(nR x).Kind=5∨(nR x).Kind=6∨(nR x).Kind=7
 ·rw [if_pos k4];exact ⟨by simp [z0],by simp only [z0,nR,xv2];omega,by simp [z0],by simp [z0],by simp [z0],by simpa only [z0,nR,xv2] using hps,by simp [z0]⟩
 rw [if_neg k4]
 by_cases k5:(nR x).Kind=8∨(nR x).Kind=10
 ·rw [if_pos k5];exact ⟨by simp [z0],by simp only [z0,nR,xv2];omega,by simp only [z0,nR,xv2];omega,by simp [z0],by simpa only [z0,nR,xv2] using hft,by simpa only [z0,nR,xv2] using hps,by simp [z0]⟩
 rw [if_neg k5]
 by_cases k6:(nR x).Kind=9∨(nR x).Kind=11
 ·rw [if_pos k6];exact ⟨by simp [z0],by simp only [z0,nR,xv2];omega,by simp [z0],by simp [z0,nR];omega,by simp [z0],by simpa only [z0,nR,xv2] using hps,by simp [z0]⟩
 rw [if_neg k6]
 by_cases k7:(nR x).Kind=14∨(nR x).Kind=15
 ·rw [if_pos k7];exact ⟨by simp [z0],by simp only [z0,nR,xv2];omega,by simp [z0],by simp [z0],by simp [z0],by simpa only [z0,nR,xv2] using hps,by simp [z0]⟩
 rw [if_neg k7]
 exact ⟨by simp [z0],by simp [z0],by simp [z0],by simp [z0],by simp [z0],by simp [z0],by simp [z0]⟩
theorem xv144 {v:Int} {x:fn113} (h:FixP v x):xv8 v (bareN (nR x))=true:=by
 obtain ⟨hv,kd,cl,us,tp,wt,sz,q,wq,dup,id3,id0,hp,cln,code,pres,pc,pl,ps,p4,wc,wl,ws,w4,auth,fl,ft,fw,cdl,cd,cd4⟩:=h
 obtain ⟨Kind,Dup,Retain,QoS,Id,Clean,Keep,Client,HasWill,HasUser,HasPass,WillQoS,WillRetain,WillProps,WillTopic,WillLoad,User,Pass,Present,Code,Topic,Load,Filters,Codes,Props⟩:=x
 simp only at kd cl us tp wt sz q wq dup id3 id0 hp cln code pres pc pl ps p4 wc wl ws w4 auth fl ft fw cdl cd cd4
 have tcl:=xv78 cl.1 cl.2
 have tus:=xv78 us.1 us.2
 have ttp:=xv78 tp.2.2 tp.2.1
 have twt:=xv78 wt.2.2 wt.2.1
 have tn:=xv50
 have hlp:v=4->¬ (L Props).length > 0:=fun h=>by rw [p4 h];simp
 have hlw:v=4->¬ (L WillProps).length > 0:=fun h=>by rw [w4 h];simp
 have hsum:(v=4->¬ (L Props).length + (L WillProps).length > 0):=fun h=>by have:=hlp h;have:=hlw h;omega
 have z9:Pass.length ≤ 65535:=by omega
 have z8:WillLoad.length ≤ 65535:=by omega
 have cn:xv5 16 []=true:=rfl
 have kk:Kind=1∨Kind=2∨Kind=3∨Kind=4∨Kind=5∨Kind=6∨Kind=7∨Kind=8∨Kind=9∨Kind=10∨Kind=11∨Kind=12∨Kind=13∨Kind=14∨Kind=15:=by omega
 have pcs:∀ p:Prop,[Decidable p]->(¬ p)->(!decide p)=true:=fun p _ h=>by simp [h]
 have u2:∀ u:UInt8,u ≠ 0->decide (u=0)=false:=fun u h=>decide_eq_false h
 have hv2:(decide (v=4) || decide (v=5))=true:=by rcases hv with rfl|rfl<;>rfl
 have hs40:(!(decide (v=4) && decide ((L Props).length + 0 > 0)))=true:=by
  by_cases h4:v=4
  ·have:=hlp h4;simp only [decide_eq_true h4,Nat.add_zero,decide_eq_false this];rfl
  ·simp only [decide_eq_false h4];rfl
 have h4p:¬ v=4∨L Props=[]:=by
  by_cases h4:v=4
  ·exact .inr (p4 h4)
  ·exact .inl h4
 rcases kk with rfl|rfl|rfl|rfl|rfl|rfl|rfl|rfl|rfl|rfl|rfl|rfl|rfl|rfl|rfl
 ·have hc:v=5∨((HasUser=true∨HasPass=false)∧(Clean=true∨¬ Client=[])):=by
   rcases hv with rfl|rfl
   ·refine .inr ⟨?_,?_⟩
    ·cases hpp:HasPass
     ·exact .inr rfl
     ·exact .inl (hp rfl hpp)
    ·by_cases hc:Client=[]
     ·exact .inl (cln rfl hc)
     ·exact .inr hc
   ·exact .inl rfl
  have hc2:(decide (v=5) || ((HasUser || !HasPass) && (Clean || !decide (Client=[]))))=true:=by
   rcases hc with hc|⟨h1,h2⟩
   ·simp [hc]
   ·rcases h1 with h1|h1<;>rcases h2 with h2|h2<;>simp [h1,h2]
  have hs4:(!(decide (v=4) && decide ((L Props).length + (L WillProps).length > 0)))=true:=by
   by_cases h4:v=4
   ·have:=hsum h4;simp only [decide_eq_true h4,decide_eq_false this];rfl
   ·simp only [decide_eq_false h4];rfl
  have hwq:decide (WillQoS > 2)=false:=decide_eq_false wq
  by_cases hw:HasWill=true
  ·subst hw
   cases HasUser<;>cases HasPass <;>
    simp only [xv8,verB,nR,bareN,z0,xv11,ownN,hv2,conN,hwq,wt.1,hc2,tcl,tus,twt,pc,wc,z8,z9,xv2,if_true,if_false,reduceIte,Bool.false_eq_true,hs4]<;>simp [tcl,tus,twt,tn,pc,wc,z8,z9]<;>simpa using hc2
  ·simp only [Bool.not_eq_true] at hw
   subst hw
   cases HasUser<;>cases HasPass <;>
    simp only [xv8,verB,nR,bareN,z0,xv11,ownN,hv2,conN,hc2,tcl,tus,tn,pc,cn,z8,z9,xv2,if_true,if_false,reduceIte,Bool.false_eq_true,hs40,List.length_nil]<;>simp [tcl,tus,tn,pc,z8,z9]<;>simpa using hc2
 ·have hk:=code (kn0 (by rcases hv with rfl|rfl<;>simp))
  have hp2:(!Present || decide (Code=0))=true:=by cases Present<;>simp_all
  simp only [xv8,verB,nR,bareN,z0,xv11,ownN,hv2,xv2,List.length_nil,hs40,pc,cn,tn]
  simp [tn,pc,h4p,xv7,hk,hp2,xv18]
 ·have hpub:pubN v ⟨3,Dup,Retain,QoS,Id,false,0,[],false,false,false,0,false,some [],[],[],[],[],false,0,Topic,Load,some [],some [],some (L Props)⟩=true:=by
   have hi:=id3 rfl
   have h2:(decide (Id=0) == decide (QoS=0))=true:=by
    by_cases h:QoS=0
    ·have:=hi.2 h;simp [h,this]
    ·have:¬ Id=0:=fun e=>h (hi.1 e);simp [h,this]
   have h1:(!(Dup && decide (QoS=0)))=true:=by
    cases hD:Dup with
    | false=>rfl
    | true=>have:=dup hD;simp [this]
   have h3:(nameB Topic || (decide (v=5) && decide (Topic=[]) && hasId (L Props) 35))=true:=by
    rcases tp.1 with h|⟨a,b,c⟩
    ·simp [h]
    ·simp [a,b,c]
   simp only [pubN,decide_eq_false q,h1,h2,h3,xv2,Bool.not_false,Bool.and_self]
  simp only [xv8,verB,nR,bareN,z0,xv11,ownN,hv2,xv2,List.length_nil,hs40,pc,cn,tn]
  simp [tn,pc,h4p,xv7,hpub,ttp]
 ·have hk:=code (kn0 (by rcases hv with rfl|rfl<;>simp))
  have hi:=id0 (by decide)
  simp only [xv8,verB,nR,bareN,z0,xv11,ownN,hv2,xv2,List.length_nil,hs40,pc,cn,tn]
  simp [tn,pc,h4p,xv7,hk,hi]
 ·have hk:=code (kn0 (by rcases hv with rfl|rfl<;>simp))
  have hi:=id0 (by decide)
  simp only [xv8,verB,nR,bareN,z0,xv11,ownN,hv2,xv2,List.length_nil,hs40,pc,cn,tn]
  simp [tn,pc,h4p,xv7,hk,hi]
 ·have hk:=code (kn0 (by rcases hv with rfl|rfl<;>simp))
  have hi:=id0 (by decide)
  simp only [xv8,verB,nR,bareN,z0,xv11,ownN,hv2,xv2,List.length_nil,hs40,pc,cn,tn]
  simp [tn,pc,h4p,xv7,hk,hi]
 ·have hk:=code (kn0 (by rcases hv with rfl|rfl<;>simp))
  have hi:=id0 (by decide)
  simp only [xv8,verB,nR,bareN,z0,xv11,ownN,hv2,xv2,List.length_nil,hs40,pc,cn,tn]
  simp [tn,pc,h4p,xv7,hk,hi]
 ·have hi:=id0 (by decide)
  have hw:xv6 (L Filters).length=true:=by
   have h1:1 ≤ (L Filters).length:=fl.1
   have h2:(L Filters).length ≤ 1024:=by omega
   simp [xv6,h1,h2]
  have ha:(L Filters).all (wantN v 8)=true:=List.all_eq_true.2 (fw (by simp))
  have hf:xv15 v ⟨8,false,false,0,Id,false,0,[],false,false,false,0,false,some [],[],[],[],[],false,0,[],[],some (L Filters),some [],some (L Props)⟩=true:=by
   simp only [xv15,xv2,hw,ha,Bool.and_self]
  simp only [xv8,verB,nR,bareN,z0,xv11,ownN,hv2,xv2,List.length_nil,hs40,pc,cn,tn]
  simp [tn,pc,h4p,xv7,hi,hf]
 ·have hi:=id0 (by decide)
  obtain ⟨c1,c2⟩:=cd (.inl rfl)
  have hw:xv6 (L Codes).length=true:=by
   have h2:(L Codes).length ≤ 1024:=by omega
   simp [xv6,c1,h2]
  have ha:(L Codes).all (knB v 9)=true:=List.all_eq_true.2 c2
  have hf:xv51 v ⟨9,false,false,0,Id,false,0,[],false,false,false,0,false,some [],[],[],[],[],false,0,[],[],some [],some (L Codes),some (L Props)⟩=true:=by
   simp only [xv51]
   rw [if_neg (by omega)]
   simp only [xv2,hw,ha,Bool.and_self]
  simp only [xv8,verB,nR,bareN,z0,xv11,ownN,hv2,xv2,List.length_nil,hs40,pc,cn,tn]
  simp [tn,pc,h4p,xv7,hi,hf]
 ·have hi:=id0 (by decide)
  have hw:xv6 (L Filters).length=true:=by
   have h1:1 ≤ (L Filters).length:=fl.1
   have h2:(L Filters).length ≤ 1024:=by omega
   simp [xv6,h1,h2]
  have ha:(L Filters).all (wantN v 10)=true:=List.all_eq_true.2 (fw (by simp))
  have hf:xv15 v ⟨10,false,false,0,Id,false,0,[],false,false,false,0,false,some [],[],[],[],[],false,0,[],[],some (L Filters),some [],some (L Props)⟩=true:=by
   simp only [xv15,xv2,hw,ha,Bool.and_self]
  simp only [xv8,verB,nR,bareN,z0,xv11,ownN,hv2,xv2,List.length_nil,hs40,pc,cn,tn]
  simp [tn,pc,h4p,xv7,hi,hf]
 ·have hi:=id0 (by decide)
  have hf:xv51 v ⟨11,false,false,0,Id,false,0,[],false,false,false,0,false,some [],[],[],[],[],false,0,[],[],some [],some (L Codes),some (L Props)⟩=true:=by
   simp only [xv51]
   by_cases h4:v=4
   ·rw [if_pos ⟨h4,trivial⟩]
    have:=cd4 h4 rfl
    simpa only [xv2] using decide_eq_true this
   ·have h5:v=5:=by rcases hv with h|h
                    ·exact absurd h h4
                    ·exact h
    rw [if_neg (fun h=>h4 h.1)]
    obtain ⟨c1,c2⟩:=cd (.inr ⟨rfl,h5⟩)
    have hw:xv6 (L Codes).length=true:=by
     have h2:(L Codes).length ≤ 1024:=by omega
     simp [xv6,c1,h2]
    have ha:(L Codes).all (knB v 11)=true:=List.all_eq_true.2 c2
    simp only [xv2,hw,ha,Bool.and_self]
  simp only [xv8,verB,nR,bareN,z0,xv11,ownN,hv2,xv2,List.length_nil,hs40,pc,cn,tn]
  simp [tn,pc,h4p,xv7,hi,hf]
 ·simp only [xv8,verB,nR,bareN,z0,xv11,ownN,hv2,xv2,List.length_nil,hs40,pc,cn,tn]
  simp [tn,h4p,xv7]
 ·simp only [xv8,verB,nR,bareN,z0,xv11,ownN,hv2,xv2,List.length_nil,hs40,pc,cn,tn]
  simp [tn,h4p,xv7]
 ·have hk:=code (kn0 (by rcases hv with rfl|rfl<;>simp))
  simp only [xv8,verB,nR,bareN,z0,xv11,ownN,hv2,xv2,List.length_nil,hs40,pc,cn,tn]
  simp [tn,pc,h4p,xv7,hk]
 ·have h5:v=5:=by rcases hv with rfl|rfl
                  ·have:=kd.2.2 rfl;omega
                  ·rfl
  subst h5
  have hk:=code (kn0 (by simp))
  have ha:=auth rfl
  simp only [xv8,verB,nR,bareN,z0,xv11,ownN,hv2,xv2,List.length_nil,hs40,pc,cn,tn]
  simp [tn,pc,h4p,xv7,hk,ha]
theorem xv255 {v:Int} {x:fn113} (h:FixP v x):∃ b,fn146 x=some b∧FewR b∧xv8 v (nR b)=true∧nR b=bareN (nR x):=by
 obtain ⟨b,h1,h2⟩:=xv170 x
 exact ⟨b,h1,xv332 (by rw [h2];exact xv231 h),by rw [h2];exact xv144 h,h2⟩
end Go.Rv
namespace Go.Rv
open Go.Lib
def MadeP (v:Int) (y:fn113):Prop:=FewR y∧xv8 v (nR y)=true
def setC (x:fn113) (o:Option (List UInt8)):fn113:={ x with Codes:=o }
def setF (x:fn113) (o:Option (List fn112)):fn113:={ x with Filters:=o }
def needC (v k:Int):Bool:=decide (k=9) || (decide (k=11) && decide (v=5))
structure CodesOk (v k:Int) (o:Option (List UInt8)):Prop where
 l:(L o).length ≤ 20
 c:k=9∨(k=11∧v=5)->1 ≤ (L o).length∧∀ c ∈ L o,knB v k c=true
 z:v=4->k=11->(L o).length=0
def PreC (v:Int) (x:fn113):Prop:=∀ o,CodesOk v x.Kind o->FixP v (setC x o)
theorem xv72 {v k:Int}:needC v k=true ↔ (k=9∨(k=11∧v=5)):=by simp [needC]
theorem xv289 {v:Int} {p x:fn113} {i:Nat} {o:Option (List UInt8)} (hi:i < (L p.Codes).length) (h5:i < 5) (hn:needC v x.Kind=true) (ho:(L o).length ≤ 5) :
 ∃ d,fn183_l16 v p ((i:Int),setC x o)=some (.inl (((i + 1:Nat):Int),setC x (some (L o++[d]))))∧(knB v x.Kind 0=true->knB v x.Kind d=true):=by
 obtain ⟨d,h1,h2⟩:=xv166 v x.Kind (L p.Codes)[i]
 have happ:appO 1 o (some [d])=some (some (L o++[d])):=by
  have:=xv21 (n:=1) (x:=o) (a:=d) (l:=[]) (by simp [room];omega) (by simp [room];omega)
  simpa using this
 have h17:∀ {ρ:Type} (k1:Int->Option (List UInt8)->Option ρ),fn183_c17 v (i:Int) p (setC x o) k1=k1 ((i + 1:Nat):Int) (some (L o++[d])):=by
  intro ρ k1
  simp only [fn183_c17,xv1,List.getElem?_eq_getElem hi,Option.bind_some,setC,h1,happ,xv3 (show i < 9223372036854775807 by omega)]
 refine ⟨d,?_,h2⟩
 simp only [fn183_l16,fn183_b16,h17]
 rw [if_pos (by simp;omega),if_pos (by simp;omega)]
 rcases xv72.1 hn with h9|⟨h11,hv⟩
 ·rw [if_pos (decide_eq_true (show (setC x o).Kind=9 from h9))]
  rfl
 ·have:¬ (setC x o).Kind=9:=by show ¬ x.Kind=9;omega
  rw [if_neg (by simpa using this),if_pos (decide_eq_true (show (setC x o).Kind=11 from h11)),if_pos (decide_eq_true hv)]
  rfl
theorem xv288 (v:Int) (p x:fn113) (hn:needC v x.Kind=true) (hk:knB v x.Kind 0=true):∀ (f i:Nat) (o:Option (List UInt8)),f + i=5->(L o).length ≤ i->(∀ c ∈ L o,knB v x.Kind c=true) ->
 ∃ o',iter (fn183_l16 v p) ((i:Int),setC x o)=some (setC x o')∧(L o').length ≤ 5∧∀ c ∈ L o',knB v x.Kind c=true:=by
 have stop:∀ (i:Nat) (o:Option (List UInt8)),¬ (i < (L p.Codes).length∧i < 5)->iter (fn183_l16 v p) ((i:Int),setC x o)=some (setC x o):=by
  intro i o h
  rw [yv700]
  simp only [fn183_l16,fn183_b16]
  by_cases h1:i < (L p.Codes).length
  ·rw [if_pos (by simp;omega),if_neg (by simp;omega)]
  ·rw [if_neg (by simp;omega)]
 intro f
 induction f with
 | zero=>exact fun i o hi hl hc=>⟨o,stop i o (by omega),by omega,hc⟩
 | succ f ih =>
  intro i o hi hl hc
  by_cases h:i < (L p.Codes).length
  ·obtain ⟨d,h1,h2⟩:=xv289 (v:=v) (p:=p) (x:=x) (o:=o) h (by omega) hn (by omega)
   obtain ⟨o',k1,k2⟩:=ih (i + 1) (some (L o++[d])) (by omega) (by simp;omega) (fun c hc'=>by
    simp at hc'
    rcases hc' with hc'|rfl
    ·exact hc c hc'
    ·exact h2 hk)
   refine ⟨o',?_,k2⟩
   rw [yv700,h1];exact k1
  ·exact ⟨o,stop i o (by omega),by omega,hc⟩
theorem xv246 {v:Int} {x:fn113} (h:FixP v x):∃ y,MadeP v y∧∀ {ρ:Type} (k:fn113->Option ρ),fn183_c18 x k=k y:=by
 obtain ⟨b,h1,h2,h3,_⟩:=xv255 h
 refine ⟨b,⟨h2,h3⟩,fun k=>?_⟩
 show (fn146 x).bind _=_
 rw [h1];rfl
theorem xv287 {v:Int} (hv:v=4∨v=5) (p:fn113) {x:fn113} (h:PreC v x):∃ y z,MadeP v y∧∀ {ρ:Type} (k:fn113->fn113->Option ρ),fn183_c15 v p (setC x none) k=k y z:=by
 cases hn:needC v x.Kind with
 | false =>
  have hnn:¬ (x.Kind=9∨(x.Kind=11∧v=5)):=fun e=>by rw [xv72.2 e] at hn;cases hn
  obtain ⟨y,d,hy⟩:=xv246 (h none ⟨by simp,fun e=>absurd e hnn,fun _ _=>by simp⟩)
  have hst:iter (fn183_l16 v p) (0,setC x none)=some (setC x none):=by
   rw [yv700]
   have e9:¬ (setC x none).Kind=9:=fun e=>hnn (.inl e)
   simp only [fn183_l16,fn183_b16]
   by_cases h1:(0:Int) < ((L p.Codes).length:Int)
   ·rw [if_pos (decide_eq_true h1),if_pos (show decide ((0:Int) < 5)=true from rfl),if_neg (by simpa using e9)]
    by_cases h11:(setC x none).Kind=11
    ·rw [if_pos (decide_eq_true h11),if_neg (by simpa using fun e=>hnn (.inr ⟨h11,e⟩))]
    ·rw [if_neg (by simpa using h11)]
   ·rw [if_neg (by simpa using h1)]
  refine ⟨y,setC x none,d,fun k=>?_⟩
  have e9:¬ (setC x none).Kind=9:=fun e=>hnn (.inl e)
  simp only [fn183_c15,hst,Option.bind_some]
  rw [if_pos (by simp [setC]),if_neg (by simpa using e9)]
  by_cases h11:(setC x none).Kind=11
  ·rw [if_pos (decide_eq_true h11),if_neg (by simpa using fun e=>hnn (.inr ⟨h11,e⟩))]
   exact hy _
  ·rw [if_neg (by simpa using h11)]
   exact hy _
 | true =>
  have hnn:=xv72.1 hn
  have hk:knB v x.Kind 0=true:=kn0 (by
   rcases hv with rfl|rfl
   ·left;refine ⟨rfl,?_⟩;rcases hnn with e|⟨_,e⟩
    ·simp [e]
    ·omega
   ·right;refine ⟨rfl,?_⟩;rcases hnn with e|⟨e,_⟩<;>simp [e])
  obtain ⟨o,h1,h2,h3⟩:=xv288 v p x hn hk 5 0 none rfl (by simp) (by simp)
  rw [show ((0:Nat):Int)=0 from rfl] at h1
  have h4:v=4->x.Kind=11->False:=fun e1 e2=>by
   rcases hnn with e|⟨_,e⟩<;>omega
  by_cases he:(L o).length=0
  ·obtain ⟨y,d,hy⟩:=xv246 (h (some [0]) ⟨by simp,fun _=>⟨by simp,fun c hc=>by simp at hc;rw [hc];exact hk⟩,fun a b=>(h4 a b).elim⟩)
   refine ⟨y,setC x (some [0]),d,fun k=>?_⟩
   simp only [fn183_c15,h1,Option.bind_some]
   rw [if_pos (by simp [setC,he])]
   rcases hnn with e9|⟨e11,e5⟩
   ·rw [if_pos (decide_eq_true (show (setC x o).Kind=9 from e9))]
    exact hy _
   ·have:¬ (setC x o).Kind=9:=by show ¬ x.Kind=9;omega
    rw [if_neg (by simpa using this),if_pos (decide_eq_true (show (setC x o).Kind=11 from e11)),if_pos (decide_eq_true e5)]
    exact hy _
  ·obtain ⟨y,d,hy⟩:=xv246 (h o ⟨by omega,fun _=>⟨by omega,h3⟩,fun a b=>(h4 a b).elim⟩)
   refine ⟨y,setC x o,d,fun k=>?_⟩
   simp only [fn183_c15,h1,Option.bind_some]
   rw [if_neg (by have h0:¬ ((L (setC x o).Codes).length:Int)=0:=by { show ¬ ((L o).length:Int)=0;omega };simpa using h0)]
   exact hy _
end Go.Rv
namespace Go.Rv
open Go.Lib
def fullO (o:UInt8):UInt8:=((o % (3:UInt8) + ((4:UInt8) * ((o / (4:UInt8)) % (2:UInt8)))) + ((8:UInt8) * ((o / (8:UInt8)) % (2:UInt8)))) + ((16:UInt8) * ((o / (16:UInt8)) % (3:UInt8)))
theorem xv269:∀ o,optN 5 8 false (fullO o)=true:=all8 (by decide +kernel)
theorem opt_3:∀ sh o,optN 5 8 sh (o % (3:UInt8))=true∧optN 4 8 sh (o % (3:UInt8))=true:=by
 intro sh
 cases sh<;>exact all8 (by decide +kernel)
theorem opt_0:∀ sh:Bool,optN 5 10 sh 0=true∧optN 4 10 sh 0=true∧optN 5 8 sh 0=true∧optN 4 8 sh 0=true:=by
 intro sh
 cases sh<;>decide +kernel
structure FiltsOk (v k:Int) (o:Option (List fn112)):Prop where
 l:1 ≤ (L o).length∧(L o).length ≤ 20
 t:∀ f ∈ L o,f.Text.length ≤ 100
 w:k=8∨k=10->∀ f ∈ L o,wantN v k f=true
def PreF (v:Int) (x:fn113):Prop:=∀ o,FiltsOk v x.Kind o->PreC v (setF x o)
def fOpt (v k:Int) (sh:Bool) (o:UInt8):UInt8:=if k=10 then 0 else if k=8∧v=5∧sh=false then fullO o else o % 3
theorem xv297 {v k:Int} (hv:v=4∨v=5) (hk:k=8∨k=10) (sh:Bool) (o:UInt8):optN v k sh (fOpt v k sh o)=true:=by
 rcases hk with rfl|rfl
 ·simp only [fOpt]
  rw [if_neg (by decide)]
  rcases hv with rfl|rfl
  ·rw [if_neg (by simp)];exact (opt_3 sh o).2
  ·cases sh with
   | false=>rw [if_pos (by simp)];exact xv269 o
   | true=>rw [if_neg (by simp)];exact (opt_3 true o).1
 ·simp only [fOpt]
  rw [if_pos trivial]
  rcases hv with rfl|rfl
  ·exact (opt_0 sh).2.1
  ·exact (opt_0 sh).1
theorem xv296 {v:Int} {p x:fn113} {i:Nat} {o:Option (List fn112)} (hv:v=4∨v=5) (hi:i < (L p.Filters).length) (h5:i < 5) (ho:(L o).length ≤ 5) :
 ∃ f,fn183_l10 v p ((i:Int),setF x o)=some (.inl (((i + 1:Nat):Int),setF x (some (L o++[f]))))∧f.Text.length ≤ 100∧(x.Kind=8∨x.Kind=10->wantN v x.Kind f=true):=by
 obtain ⟨F,hF,hFe⟩:=ff_eq (L p.Filters)[i].Text
 have hFl:=hF.1
 have hff:=xv199 hF
 have happ:∀ q,appO 24 o (some [q])=some (some (L o++[q])):=fun q=>by
  have:=xv21 (n:=24) (x:=o) (a:=q) (l:=[]) (by simp [room];omega) (by simp [room];omega)
  simpa using this
 have hsh:=xv82 F (by omega)
 rcases hs:xv23 F with ⟨s1,s2,s3⟩
 rw [hs] at hsh
 have h12:∀ {ρ:Type} (c:Bool) (f:fn112) (k1:UInt8->Option ρ) (k2:Option ρ),fn183_c12 (i:Int) c p f k1 k2=if c=true then k1 (((f.Opt + ((4:UInt8) * (((L p.Filters)[i].Opt / (4:UInt8)) % (2:UInt8)))) + ((8:UInt8) * (((L p.Filters)[i].Opt / (8:UInt8)) % (2:UInt8)))) + ((16:UInt8) * (((L p.Filters)[i].Opt / (16:UInt8)) % (3:UInt8)))) else k2:=by
  intro ρ c f k1 k2
  simp only [fn183_c12,xv1,List.getElem?_eq_getElem hi,Option.bind_some,show chk (decide ((4:UInt8) ≠ 0))=some () from rfl,show chk (decide ((2:UInt8) ≠ 0))=some () from rfl,show chk (decide ((8:UInt8) ≠ 0))=some () from rfl,show chk (decide ((16:UInt8) ≠ 0))=some () from rfl,show chk (decide ((3:UInt8) ≠ 0))=some () from rfl]
 have h13:∀ {ρ:Type} (f:fn112) (k1:Option (List fn112)->Option ρ),fn183_c13 (setF x o) f k1=k1 (some (L o++[f])):=by
  intro ρ f k1
  simp only [fn183_c13]
  rw [show (setF x o).Filters=o from rfl,happ]
  rfl
 have h11:∀ {ρ:Type} (q:UInt8) (k1:Option (List fn112)->fn112->Option ρ),fn183_c11 v (i:Int) p (setF x o) ⟨F,q⟩ k1 =
  k1 (some (L o++[⟨F,if x.Kind=8∧v=5∧s3=false then ((q + ((4:UInt8) * (((L p.Filters)[i].Opt / (4:UInt8)) % (2:UInt8)))) + ((8:UInt8) * (((L p.Filters)[i].Opt / (8:UInt8)) % (2:UInt8)))) + ((16:UInt8) * (((L p.Filters)[i].Opt / (16:UInt8)) % (3:UInt8))) else q⟩]))
   ⟨F,if x.Kind=8∧v=5∧s3=false then ((q + ((4:UInt8) * (((L p.Filters)[i].Opt / (4:UInt8)) % (2:UInt8)))) + ((8:UInt8) * (((L p.Filters)[i].Opt / (8:UInt8)) % (2:UInt8)))) + ((16:UInt8) * (((L p.Filters)[i].Opt / (16:UInt8)) % (3:UInt8))) else q⟩:=by
  intro ρ q k1
  simp only [fn183_c11,hsh,Option.bind_some,h12,h13]
  by_cases h8:x.Kind=8
  ·rw [if_pos (decide_eq_true (show (setF x o).Kind=8 from h8))]
   by_cases hv5:v=5
   ·rw [if_pos (decide_eq_true hv5)]
    cases s3 with
    | true=>rw [if_neg (by simp),if_neg (by simp)]
    | false=>rw [if_pos (by simp),if_pos ⟨h8,hv5,rfl⟩]
   ·rw [if_neg (by simpa using hv5),if_neg (by simp),if_neg (fun h=>hv5 h.2.1)]
  ·rw [if_neg (by rw [decide_eq_true_eq];exact h8),if_neg (by simp),if_neg (fun h=>h8 h.1)]
 refine ⟨⟨F,fOpt v x.Kind s3 (L p.Filters)[i].Opt⟩,?_,by show F.length ≤ 100;omega,fun hk=>?_⟩
 ·simp only [fn183_l10,fn183_b10,xv1,List.getElem?_eq_getElem hi,Option.bind_some,hFe,h11,xv3 (show i < 9223372036854775807 by omega),show chk (decide ((3:UInt8) ≠ 0))=some () from rfl]
  rw [if_pos (by simp;omega),if_pos (by simp;omega)]
  by_cases h10:x.Kind=10
  ·have h8:¬ (x.Kind=8∧v=5∧s3=false):=fun h=>by omega
   rw [if_pos (decide_eq_true (show (setF x o).Kind=10 from h10))]
   simp only [if_neg h8,fOpt,if_pos h10]
   rfl
  ·rw [if_neg (by rw [decide_eq_true_eq];exact h10)]
   simp only [fOpt,if_neg h10,fullO]
   rfl
 ·show wantN v x.Kind ⟨F,_⟩=true
  simp only [wantN,hff,hs,Bool.true_and]
  exact xv297 hv hk s3 _
theorem xv295 (v:Int) (hv:v=4∨v=5) (p x:fn113):∀ (f i:Nat) (o:Option (List fn112)),f + i=5->(L o).length ≤ i->(∀ f ∈ L o,f.Text.length ≤ 100∧(x.Kind=8∨x.Kind=10->wantN v x.Kind f=true)) ->
 ∃ o',iter (fn183_l10 v p) ((i:Int),setF x o)=some (setF x o')∧(L o').length ≤ 5∧∀ f ∈ L o',f.Text.length ≤ 100∧(x.Kind=8∨x.Kind=10->wantN v x.Kind f=true):=by
 have stop:∀ (i:Nat) (o:Option (List fn112)),¬ (i < (L p.Filters).length∧i < 5)->iter (fn183_l10 v p) ((i:Int),setF x o)=some (setF x o):=by
  intro i o h
  rw [yv700]
  simp only [fn183_l10,fn183_b10]
  by_cases h1:i < (L p.Filters).length
  ·rw [if_pos (by simp;omega),if_neg (by simp;omega)]
  ·rw [if_neg (by simp;omega)]
 intro f
 induction f with
 | zero=>exact fun i o hi hl hc=>⟨o,stop i o (by omega),by omega,hc⟩
 | succ f ih =>
  intro i o hi hl hc
  by_cases h:i < (L p.Filters).length
  ·obtain ⟨d,h1,h2,h3⟩:=xv296 (v:=v) (p:=p) (x:=x) (o:=o) hv h (by omega) (by omega)
   obtain ⟨o',k1,k2⟩:=ih (i + 1) (some (L o++[d])) (by omega) (by simp;omega) (fun c hc'=>by
    simp at hc'
    rcases hc' with hc'|rfl
    ·exact hc c hc'
    ·exact ⟨h2,h3⟩)
   refine ⟨o',?_,k2⟩
   rw [yv700,h1];exact k1
  ·exact ⟨o,stop i o (by omega),by omega,hc⟩
theorem c9_ok {v:Int} (hv:v=4∨v=5) (p:fn113) {x:fn113} (h:PreF v x):∃ y z,MadeP v y∧∀ {ρ:Type} (k:fn113->fn113->Option ρ),fn183_c9 v p x k=k y z:=by
 obtain ⟨o,h1,h2,h3⟩:=xv295 v hv p (setC x none) 5 0 none rfl (by simp) (by simp)
 rw [show ((0:Nat):Int)=0 from rfl] at h1
 by_cases he:(L o).length=0
 ·have hw:x.Kind=8∨x.Kind=10->wantN v x.Kind ⟨[97,47,43],0⟩=true:=by
   intro hk
   have hf:xv12 [97,47,43]=true:=by decide +kernel
   have hs:(xv23 [97,47,43]).2.2=false:=by decide +kernel
   simp only [wantN,hf,hs,Bool.true_and]
   obtain ⟨a,b,c,d⟩:=opt_0 false
   rcases hv with rfl|rfl<;>rcases hk with e|e<;>rw [e]<;>assumption
  obtain ⟨y,z,d,hy⟩:=xv287 hv p (h (some [⟨[97,47,43],0⟩]) ⟨by simp,fun f hf=>by simp at hf;rw [hf];simp,fun hk f hf=>by simp at hf;rw [hf];exact hw hk⟩)
  refine ⟨y,z,d,fun k=>?_⟩
  have e1:iter (fn183_l10 v p) (0,({x with Filters:=none,Codes:=none}:fn113))=some (setF (setC x none) o):=h1
  simp only [fn183_c9]
  rw [e1]
  simp only [Option.bind_some]
  rw [if_pos (by simp [setF,he])]
  exact hy k
 ·obtain ⟨y,z,d,hy⟩:=xv287 hv p (h o ⟨by omega,fun f hf=>(h3 f hf).1,fun hk f hf=>(h3 f hf).2 hk⟩)
  refine ⟨y,z,d,fun k=>?_⟩
  have e1:iter (fn183_l10 v p) (0,({x with Filters:=none,Codes:=none}:fn113))=some (setF (setC x none) o):=h1
  simp only [fn183_c9]
  rw [e1]
  simp only [Option.bind_some]
  rw [if_neg (by have h0:¬ ((L (setF (setC x none) o).Filters).length:Int)=0:=by { show ¬ ((L o).length:Int)=0;omega }
                 simpa using h0)]
  exact hy k
end Go.Rv
namespace Go.Rv
open Go.Lib
structure PropsOk (v k:Int) (w p:Option (List fn163)):Prop where
 pc:xv5 k (L p)=true
 pl:(L p).length ≤ 20
 ps:∀ a ∈ L p,a.A.length ≤ 100∧a.B.length ≤ 100
 p4:v=4->L p=[]
 wc:xv5 16 (L w)=true
 wl:(L w).length ≤ 20
 ws:∀ a ∈ L w,a.A.length ≤ 100∧a.B.length ≤ 100
 w4:v=4->L w=[]
 auth:k=15->hasId (L p) 21=true
def PreP (v:Int) (x:fn113):Prop:=∀ w p t,PropsOk v x.Kind w p->(t=x.Topic∨(v=5∧t=[]∧hasId (L p) 35=true))->PreF v { x with WillProps:=w,Topic:=t,Props:=p }
theorem ManyP.sz {k:Int} {l:List fn163} (h:ManyP k l):∀ a ∈ l,a.A.length ≤ 100∧a.B.length ≤ 100:=fun a ha=>⟨(h.one a ha).a,(h.one a ha).b⟩
theorem c8_ok {v:Int} (hv:v=5) (p x:fn113) (hl:(L x.Props).length ≤ 20):∃ t q,(t=x.Topic∨(v=5∧t=[]∧hasId (L x.Props) 35=true))∧∀ {ρ:Type} (k:List UInt8->fn163->Option ρ),fn183_c8 p x k=k t q:=by
 have hg:=xv41 x.Props 35 (by omega)
 have hg2:=xv52 (L x.Props) 35
 rcases hgn:getN (L x.Props) 35 with ⟨a1,a2⟩
 rw [hgn] at hg hg2
 simp only at hg2
 cases a2 with
 | false=>exact ⟨x.Topic,a1,.inl rfl,fun k=>by simp [fn183_c8,hg]⟩
 | true =>
  by_cases ht:p.Topic=[]
  ·exact ⟨[],a1,.inr ⟨hv,rfl,hg2.symm⟩,fun k=>by simp [fn183_c8,hg,ht]⟩
  ·exact ⟨x.Topic,a1,.inl rfl,fun k=>by simp [fn183_c8,hg,ht]⟩
theorem c6_ok {v:Int} (hv:v=4∨v=5) (p:fn113) {x:fn113} {k:Nat} (hk:x.Kind=(k:Int)) (k1:1 ≤ k) (k15:k ≤ 15) (k4:v=4->k ≤ 14) (h:PreP v x) :
 ∃ y z,MadeP v y∧∀ {ρ:Type} (k:fn113->fn113->Option ρ),fn183_c6 v p x k=k y z:=by
 rcases hv with rfl|rfl
 ·obtain ⟨y,z,d,hy⟩:=c9_ok (.inl rfl) p (h none none x.Topic ⟨rfl,by simp,by simp,fun _=>rfl,rfl,by simp,by simp,fun _=>rfl,fun e=>by have:=k4 rfl;omega⟩ (.inl rfl))
  refine ⟨y,z,d,fun kk=>?_⟩
  simp only [fn183_c6]
  rw [if_neg (by decide)]
  exact hy kk
 ·obtain ⟨r,r1,r2,r3,r4,r5⟩:=xv167 p.Props k k1 (by omega)
  obtain ⟨w,w1,w2,w3,w4,w5⟩:=xv167 p.WillProps 16 (by decide) (by decide)
  rw [show ((16:Nat):Int)=16 from rfl] at w1
  have hg:=xv41 r 21 (by omega)
  have hg2:=xv52 (L r) 21
  rcases hgn:getN (L r) 21 with ⟨a1,a2⟩
  rw [hgn] at hg hg2
  simp only at hg2
  have wck:xv5 16 (L w)=true:=xv146 w3 w4 (by omega) w5
  have go:∀ P:Option (List fn163),(L P).length ≤ 20->ManyP (k:Int) (L P)->SrtP (L P)->(hasId (L P) 21=true∨hasId (L P) 22=false)->(x.Kind=15->hasId (L P) 21=true) ->
   ∃ y z t q,MadeP 5 y∧(∀ {ρ:Type} (kk:List UInt8->fn163->Option ρ),fn183_c8 p ({ x with WillProps:=w,Props:=P }) kk=kk t q)∧∀ {ρ:Type} (kk:fn113->fn113->Option ρ),fn183_c9 5 p ({ x with WillProps:=w,Topic:=t,Props:=P }) kk=kk y z:=by
   intro P hP1 hP2 hP3 hP4 hP5
   obtain ⟨t,q,ht,hc8⟩:=c8_ok (v:=5) rfl p ({ x with WillProps:=w,Props:=P }) hP1
   have hck:xv5 x.Kind (L P)=true:=by rw [hk];exact xv146 hP2 hP3 (by omega) hP4
   obtain ⟨y,z,d,hy⟩:=c9_ok (.inr rfl) p (h w P t ⟨hck,hP1,hP2.sz,fun e=>by omega,wck,by omega,w3.sz,fun e=>by omega,hP5⟩ ht)
   exact ⟨y,z,t,q,d,hc8,hy⟩
  by_cases h15:k=15
  ·have e15:x.Kind=15:=by rw [hk,h15];rfl
   cases a2 with
   | true =>
    obtain ⟨y,z,t,q,d,hc8,hy⟩:=go r (by omega) r3 r4 r5 (fun _=>hg2.symm)
    refine ⟨y,z,d,fun kk=>?_⟩
    simp only [fn183_c6,hk,r1,w1,hg,Option.bind_some]
    rw [if_pos (show decide True=true from rfl),if_pos (by rw [h15];rfl)]
    simp only [fn183_c7,Bool.not_true,Bool.false_eq_true,if_false]
    rw [hk] at hc8 hy
    rw [hc8]
    exact hy _
   | false =>
    have happ:=xv88 (o:=r) (q:=(⟨21,0,[109],[]⟩:fn163)) (by omega)
    obtain ⟨l',s1,s2,s3⟩:=xv176 (some (L r++[⟨21,0,[109],[]⟩])) (by simp;omega)
    have hm:ManyP (k:Int) (L r++[⟨21,0,[109],[]⟩]):=r3.snoc ⟨by rw [h15];decide +kernel,val21 [109] (by decide +kernel),by simp,by simp⟩ (fun hh=>by
     rw [show (⟨21,0,[109],[]⟩:fn163).Id=21 from rfl,← hg2] at hh;cases hh)
    have h21:hasId (L r++[⟨21,0,[109],[]⟩]) 21=true:=xv62.2 ⟨_,List.mem_append_right _ (List.mem_singleton.2 rfl),rfl⟩
    rw [xv2] at s3
    obtain ⟨y,z,t,q,d,hc8,hy⟩:=go (some l') (by rw [xv2,s3.length_eq];simp;omega) (hm.perm s3) s2 (.inl (by rw [xv2,xv69 s3];exact h21)) (fun _=>by rw [xv2,xv69 s3];exact h21)
    refine ⟨y,z,d,fun kk=>?_⟩
    simp only [fn183_c6,hk,r1,w1,hg,Option.bind_some]
    rw [if_pos (show decide True=true from rfl),if_pos (by rw [h15];rfl)]
    simp only [fn183_c7,Bool.not_false,if_true,happ,Option.bind_some,s1]
    rw [hk] at hc8 hy
    rw [hc8]
    exact hy _
  ·have e15:¬ x.Kind=15:=by rw [hk];omega
   obtain ⟨y,z,t,q,d,hc8,hy⟩:=go r (by omega) r3 r4 r5 (fun e=>absurd e e15)
   refine ⟨y,z,d,fun kk=>?_⟩
   simp only [fn183_c6,hk,r1,w1,hg,Option.bind_some]
   rw [if_pos (show decide True=true from rfl),if_neg (by simp;omega)]
   simp only [fn183_c7,Bool.false_eq_true,if_false]
   rw [hk] at hc8 hy
   rw [hc8]
   exact hy _
end Go.Rv
namespace Go.Rv
open Go.Lib
def xv131 (v:Int) (x:fn113):Prop:=∃ k:Nat,x.Kind=(k:Int)∧1 ≤ k∧k ≤ 15∧(v=4->k ≤ 14)
def Pre5 (v:Int) (x:fn113):Prop:=∀ c b,(knB v x.Kind 0=true->knB v x.Kind c=true)->(b=true->c=0)->PreP v { x with Present:=b,Code:=c }
def Pre4 (v:Int) (x:fn113):Prop:=∀ c,(v=4->x.Client=[]->c=true)->Pre5 v { x with Clean:=c }
def Pre3 (v:Int) (p x:fn113):Prop:=∀ b,(v=4->b=true->p.HasUser=true)->Pre4 v { x with HasPass:=b }
def Pre2 (v:Int) (p x:fn113):Prop:=∀ i,(x.Kind=3->(i=0 ↔ x.QoS=0))->(x.Kind ≠ 3->i ≠ 0)->Pre3 v p { x with Id:=i }
theorem c5_ok {v:Int} (hv:v=4∨v=5) (p:fn113) {x:fn113} (hk:xv131 v x) (h:Pre5 v x):∃ y z,MadeP v y∧∀ {ρ:Type} (k:fn113->fn113->Option ρ),fn183_c5 v p x k=k y z:=by
 obtain ⟨n,n0,n1,n2,n3⟩:=hk
 obtain ⟨d,d1,d2⟩:=xv166 v x.Kind p.Code
 by_cases hp:p.Present=true
 ·obtain ⟨y,z,m,hy⟩:=c6_ok hv p (x:={ x with Present:=decide (d=0),Code:=d }) n0 n1 n2 n3 (h d (decide (d=0)) d2 (fun e=>of_decide_eq_true e))
  refine ⟨y,z,m,fun k=>?_⟩
  simp only [fn183_c5,d1,Option.bind_some]
  rw [if_pos hp]
  exact hy k
 ·obtain ⟨y,z,m,hy⟩:=c6_ok hv p (x:={ x with Present:=false,Code:=d }) n0 n1 n2 n3 (h d false d2 (fun e=>by cases e))
  refine ⟨y,z,m,fun k=>?_⟩
  simp only [fn183_c5,d1,Option.bind_some]
  rw [if_neg hp]
  exact hy k
theorem c4_ok {v:Int} (hv:v=4∨v=5) (p:fn113) {x:fn113} (hk:xv131 v x) (h:Pre4 v x):∃ y z,MadeP v y∧∀ {ρ:Type} (k:fn113->fn113->Option ρ),fn183_c4 v p x k=k y z:=by
 by_cases hc:p.Clean=true
 ·obtain ⟨y,z,m,hy⟩:=c5_ok hv p (x:={ x with Clean:=true }) hk (h true (fun _ _=>rfl))
  exact ⟨y,z,m,fun k=>by simp only [fn183_c4];rw [if_pos hc];exact hy k⟩
 ·by_cases h4:v=4
  ·obtain ⟨y,z,m,hy⟩:=c5_ok hv p (x:={ x with Clean:=decide (x.Client=[]) }) hk (h (decide (x.Client=[])) (fun _ e=>decide_eq_true e))
   exact ⟨y,z,m,fun k=>by simp only [fn183_c4];rw [if_neg hc,if_pos (decide_eq_true h4)];exact hy k⟩
  ·obtain ⟨y,z,m,hy⟩:=c5_ok hv p (x:={ x with Clean:=false }) hk (h false (fun e=>absurd e h4))
   exact ⟨y,z,m,fun k=>by simp only [fn183_c4];rw [if_neg hc,if_neg (by simpa using h4)];exact hy k⟩
theorem c3_ok {v:Int} (hv:v=4∨v=5) (p:fn113) {x:fn113} (hk:xv131 v x) (h:Pre3 v p x):∃ y z,MadeP v y∧∀ {ρ:Type} (k:fn113->fn113->Option ρ),fn183_c3 v p x k=k y z:=by
 by_cases hc:p.HasPass=true
 ·by_cases h5:v=5
  ·obtain ⟨y,z,m,hy⟩:=c4_ok hv p (x:={ x with HasPass:=true }) hk (h true (fun e=>by omega))
   exact ⟨y,z,m,fun k=>by simp only [fn183_c3];rw [if_pos hc,if_pos (decide_eq_true h5)];exact hy k⟩
  ·obtain ⟨y,z,m,hy⟩:=c4_ok hv p (x:={ x with HasPass:=p.HasUser }) hk (h p.HasUser (fun _ e=>e))
   exact ⟨y,z,m,fun k=>by simp only [fn183_c3];rw [if_pos hc,if_neg (by simpa using h5)];exact hy k⟩
 ·obtain ⟨y,z,m,hy⟩:=c4_ok hv p (x:={ x with HasPass:=false }) hk (h false (fun _ e=>by cases e))
  exact ⟨y,z,m,fun k=>by simp only [fn183_c3];rw [if_neg hc];exact hy k⟩
theorem c2_ok {v:Int} (hv:v=4∨v=5) (p:fn113) {x:fn113} (hk:xv131 v x) (hi:x.Id ≠ 0) (h:Pre2 v p x):∃ y z,MadeP v y∧∀ {ρ:Type} (k:fn113->fn113->Option ρ),fn183_c2 v p x k=k y z:=by
 by_cases h3:x.Kind=3
 ·by_cases hq:x.QoS=0
  ·obtain ⟨y,z,m,hy⟩:=c3_ok hv p (x:={ x with Id:=0 }) hk (h 0 (fun _=>⟨fun _=>hq,fun _=>rfl⟩) (fun e=>absurd h3 e))
   exact ⟨y,z,m,fun k=>by simp only [fn183_c2];rw [if_pos (decide_eq_true h3),if_pos (decide_eq_true hq)];exact hy k⟩
  ·obtain ⟨y,z,m,hy⟩:=c3_ok hv p (x:=x) hk (h x.Id (fun _=>⟨fun e=>absurd e hi,fun e=>absurd e hq⟩) (fun e=>absurd h3 e))
   exact ⟨y,z,m,fun k=>by simp only [fn183_c2];rw [if_pos (decide_eq_true h3),if_neg (by simpa using hq)];exact hy k⟩
 ·obtain ⟨y,z,m,hy⟩:=c3_ok hv p (x:=x) hk (h x.Id (fun e=>absurd e h3) (fun _=>hi))
  exact ⟨y,z,m,fun k=>by simp only [fn183_c2];rw [if_neg (by simpa using h3)];exact hy k⟩
theorem c1_ok {v:Int} (hv:v=4∨v=5) (p:fn113) {x:fn113} (hk:xv131 v x) (h:Pre2 v p x):∃ y z,MadeP v y∧∀ {ρ:Type} (k:fn113->fn113->Option ρ),fn183_c1 v p x k=k y z:=by
 by_cases hi:x.Id=0
 ·obtain ⟨y,z,m,hy⟩:=c2_ok hv p (x:={ x with Id:=1 }) hk (show (1:UInt16) ≠ 0 by decide) h
  exact ⟨y,z,m,fun k=>by simp only [fn183_c1];rw [if_pos (decide_eq_true hi)];exact hy k⟩
 ·obtain ⟨y,z,m,hy⟩:=c2_ok hv p (x:=x) hk hi h
  exact ⟨y,z,m,fun k=>by simp only [fn183_c1];rw [if_neg (by simpa using hi)];exact hy k⟩
theorem c0_ok {v:Int} (hv:v=4∨v=5) (n:Nat) (hn:(v=4∧n=14)∨(v=5∧n=15)) (p:fn113):∃ y z,MadeP v y∧∀ {ρ:Type} (k:fn113->fn113->Option ρ),fn183_c0 v (n:Int) p k=k y z:=by
 obtain ⟨m1,w1,a1,b1,e1⟩:=xv134 p.Client
 obtain ⟨m2,w2,a2,b2,e2⟩:=xv134 p.User
 obtain ⟨m3,w3,a3,b3,c3,e3⟩:=xv189 p.Topic
 obtain ⟨m4,w4,a4,b4,c4,e4⟩:=xv189 p.WillTopic
 have l1:=b1.len;have l2:=b2.len;have l3:=b3.len;have l4:=b4.len
 have s1:=xv105 p.Pass 9 (by omega)
 have s2:=xv105 p.WillLoad 9 (by omega)
 have s3:=xv105 p.Load 40 (by omega)
 rw [show ((9:Nat):Int)=9 from rfl] at s1 s2
 rw [show ((40:Nat):Int)=40 from rfl] at s3
 have nw3:nameB w3=true:=by
  have hw:wild w3=false:=xv94 fun b h=>⟨(b3.bytes b h).2.1,(b3.bytes b h).2.2.1⟩
  simp [nameB,c3,b3.good,hw]
 have nw4:nameB w4=true:=by
  have hw:wild w4=false:=xv94 fun b h=>⟨(b4.bytes b h).2.1,(b4.bytes b h).2.2.1⟩
  simp [nameB,c4,b4.good,hw]
 have hn0:1 ≤ n∧n ≤ 15:=by omega
 have hun:(u64 (n:Int)).toNat=n:=by rw [u64_toNat'];omega
 have hu0:u64 (n:Int) ≠ 0:=fun e=>by
  have:=congrArg UInt64.toNat e
  rw [hun] at this
  have h0:(0:UInt64).toNat=0:=rfl
  omega
 obtain ⟨j,hj⟩:∃ j:Nat,j=(u64 p.Kind % u64 (n:Int)).toNat:=⟨_,rfl⟩
 have hjn:j < n:=by rw [hj,UInt64.toNat_mod,hun];exact Nat.mod_lt _ (by omega)
 have ek:w64 (1 + w64 ((u64 p.Kind % u64 (n:Int)).toNat:Int))=((j + 1:Nat):Int):=by
  rw [← hj,xv0 (x:=(j:Int)) (by omega) (by omega),xv0 (by omega) (by omega)];omega
 have hq:∀ q:UInt8,¬ q % 3 > 2:=by intro q;revert q;exact all8 (by decide +kernel)
 have hq0:∀ q:UInt8,decide (q % 3 > 0)=true->q % 3 ≠ 0:=by intro q;revert q;exact all8 (by decide +kernel)
 have hkd:∀ x:fn113,x.Kind=((j + 1:Nat):Int)->xv131 v x:=fun x e=>⟨j + 1,e,by omega,by omega,fun e=>by omega⟩
 have main:∀ D:Bool,(D=true->p.QoS % 3 ≠ 0)->Pre2 v p ⟨((j + 1:Nat):Int),D,p.Retain,p.QoS % 3,p.Id,p.Clean,p.Keep,w1,p.HasWill,p.HasUser,p.HasPass,p.WillQoS % 3,p.WillRetain,p.WillProps,w4,p.WillLoad.take 9,w2,p.Pass.take 9,p.Present,p.Code,w3,p.Load.take 40,p.Filters,p.Codes,p.Props⟩:=by
  intro D hD i i1 i2 hp hp1 cl cl1 co pr co1 pr1 w P t hP ht F hF C hC
  refine ⟨hv,⟨by show (1:Int) ≤ ((j + 1:Nat):Int);omega,by show ((j + 1:Nat):Int) ≤ 15;omega,fun e=>by show ((j + 1:Nat):Int) ≤ 14;omega⟩,⟨b1.good,by show w1.length ≤ 40;omega⟩,⟨b2.good,by show w2.length ≤ 40;omega⟩,?_,⟨nw4,by show w4.length ≤ 40;omega,b4.good⟩,
   ⟨by show (p.Pass.take 9).length ≤ 9;rw [List.length_take];omega,by show (p.WillLoad.take 9).length ≤ 9;rw [List.length_take];omega,by show (p.Load.take 40).length ≤ 40;rw [List.length_take];omega⟩,hq _,hq _,hD,i1,i2,hp1,cl1,co1,pr1,hP.pc,hP.pl,hP.ps,hP.p4,hP.wc,hP.wl,hP.ws,hP.w4,hP.auth,hF.l,hF.t,hF.w,hC.l,hC.c,hC.z⟩
  show (nameB t=true∨_)∧t.length ≤ 40∧good t=true
  rcases ht with e|⟨a,e,b⟩
  ·have e:t=w3:=e
   rw [e];exact ⟨.inl nw3,by omega,b3.good⟩
  ·rw [e];exact ⟨.inr ⟨a,rfl,b⟩,by simp,xv18⟩
 have c3':chk (decide ((3:UInt8) ≠ 0))=some ():=rfl
 by_cases hd:p.Dup=true
 ·obtain ⟨y,z,m,hy⟩:=c1_ok hv p (hkd _ rfl) (main (decide (p.QoS % 3 > 0)) (hq0 _))
  refine ⟨y,z,m,fun k=>?_⟩
  simp only [fn183_c0,chk_d hu0,e1,e2,e3,e4,s1,s2,s3,c3',Option.bind_some,ek]
  rw [if_pos hd]
  exact hy k
 ·obtain ⟨y,z,m,hy⟩:=c1_ok hv p (hkd _ rfl) (main false (fun e=>by cases e))
  refine ⟨y,z,m,fun k=>?_⟩
  simp only [fn183_c0,chk_d hu0,e1,e2,e3,e4,s1,s2,s3,c3',Option.bind_some,ek]
  rw [if_neg hd]
  exact hy k
theorem xv200 {v:Int} (hv:v=4∨v=5) (p:fn113):∃ q,fn183 v p=some q∧FewR q∧xv8 v (nR q)=true:=by
 rcases hv with rfl|rfl
 ·obtain ⟨y,z,m,hy⟩:=c0_ok (.inl rfl) 14 (.inl ⟨rfl,rfl⟩) p
  rw [show ((14:Nat):Int)=14 from rfl] at hy
  refine ⟨y,?_,m.1,m.2⟩
  simp only [fn183]
  rw [if_neg (by decide)]
  exact hy _
 ·obtain ⟨y,z,m,hy⟩:=c0_ok (.inr rfl) 15 (.inr ⟨rfl,rfl⟩) p
  rw [show ((15:Nat):Int)=15 from rfl] at hy
  refine ⟨y,?_,m.1,m.2⟩
  simp only [fn183]
  rw [if_pos (by decide)]
  exact hy _
end Go.Rv
namespace Go.Rv
theorem xv343 (z:Int):w64 (4 + w64 ((u64 z % (2:UInt64)).toNat:Int))=4∨w64 (4 + w64 ((u64 z % (2:UInt64)).toNat:Int))=5:=by
 obtain ⟨j,hj⟩:∃ j:Nat,j=(u64 z % (2:UInt64)).toNat:=⟨_,rfl⟩
 have h2:j < 2:=by rw [hj,UInt64.toNat_mod];exact Nat.mod_lt _ (by decide)
 rw [← hj,xv0 (x:=(j:Int)) (by omega) (by omega),xv0 (by omega) (by omega)]
 omega
end Go.Rv
namespace Go.Rv
theorem xv344:fn86=fn117:=rfl
theorem wTwo1:fn105=fn142:=rfl
theorem sec1:fn27=fn43:=rfl
theorem code1:fn54=fn85:=rfl
theorem fil1:fn28=fn46:=rfl
theorem rNum1:fn137=fn170:=rfl
theorem rBin1:fn138=fn171:=rfl
theorem rsec1:fn57=fn88:=rfl
end Go.Rv
namespace Go.Rv
theorem xv314 (p:fn163) (ha:p.A.length ≤ 9000) (hb:p.B.length ≤ 9000):fn174 p=some (some (oneN p)):=by
 have hl:lim=140737488300000:=rfl
 have hn:=xv126 p.N
 have e0:(128:Nat) ^ 5=34359738368:=by decide
 have hu:(u64 (p.N.toNat:Int)).toNat=p.N.toNat:=xv127 (by omega)
 have l1:L (some [p.Id])=[p.Id]:=rfl
 have n1:=fun (k:Nat) (hk:k ≤ 1000)=>xv111 (some [p.Id]) (u64 (p.N.toNat:Int)) k hk (by rw [l1,hl];simp;omega)
 simp only [fn174,xv99,Option.bind_some,decide_eq_true_eq,oneN]
 by_cases t1:typeT p.Id=1
 ·rw [if_pos t1,if_pos t1]
  have:=n1 1 (by omega);simp only [hu,l1] at this
  rw [show ((1:Nat):Int)=1 from rfl] at this
  rw [this];rfl
 rw [if_neg t1,if_neg t1]
 by_cases t2:typeT p.Id=2
 ·rw [if_pos t2,if_pos t2]
  have:=n1 2 (by omega);simp only [hu,l1] at this
  rw [show ((2:Nat):Int)=2 from rfl] at this
  rw [this];rfl
 rw [if_neg t2,if_neg t2]
 by_cases t3:typeT p.Id=3
 ·rw [if_pos t3,if_pos t3]
  have:=n1 4 (by omega);simp only [hu,l1] at this
  rw [show ((4:Nat):Int)=4 from rfl] at this
  rw [this];rfl
 rw [if_neg t3,if_neg t3]
 by_cases t4:typeT p.Id=4
 ·rw [if_pos t4,if_pos t4,xv168 (some [p.Id]) p.N (by rw [l1];simp)];rfl
 rw [if_neg t4,if_neg t4]
 have b1:=xv34 (some [p.Id]) p.A (by omega) (by rw [l1,hl];simp;omega)
 rw [b1]
 simp only [Option.bind_some,l1]
 by_cases t7:typeT p.Id=7
 ·rw [if_pos t7,if_pos t7,xv34 _ p.B (by omega) (by rw [hl];simp [L,xv9];omega)]
  simp [L,binN]
 ·rw [if_neg t7,if_neg t7];rfl
theorem xv306 (p:fn163):∃ a l,oneN p=a::l:=⟨_,_,rfl⟩
theorem xv317 (b:Option (List UInt8)) (o:Option (List fn163)) (hb:(L b).length ≤ 130000000000000) (hl:(L o).length ≤ 1000) (ht:∀ x ∈ L o,x.A.length ≤ 9000∧x.B.length ≤ 9000) (hok:(L o).all okB=true) :
 fn175 b o=some (some (L b++putN (L o)),true):=by
 have hl2:lim=140737488300000:=rfl
 have hs:=xv122 _ ht
 simp only [fn175]
 have key:=xv19 (L o) (fn175_l0 o) (fun (s:Option (List UInt8)) i=>(s,i)) (fun (s:Option (List UInt8)) (a:fn163)=>(.inl (some (L s++oneN a)):Option (List UInt8) ⊕ (Unit ⊕ Option (List UInt8)))) (fun s=>.inr s) (fun i s=>(L s).length ≤ 18100 * i)
  (fun s i hi hI=>by
   have hm:(L o)[i] ∈ L o:=List.getElem_mem hi
   have ha:=ht _ hm
   have hok1:xv20 (L o)[i].Id (L o)[i].N (L o)[i].A (L o)[i].B=true:=List.all_eq_true.1 hok _ hm
   have h1:=xv73 _ ha.1 ha.2
   obtain ⟨c,m,e⟩:=xv306 (L o)[i]
   simp only [fn175_l0,fn175_b0]
   rw [if_pos (by simp;omega),xv1,List.getElem?_eq_getElem hi]
   simp only [Option.bind_some]
   rw [show fn123 (⟨(L o)[i].Id,(L o)[i].N,(L o)[i].A,(L o)[i].B⟩:fn163)=some true from (xv121 (L o)[i] ha.1 ha.2).trans (by rw [hok1])]
   simp only [Option.bind_some]
   rw [if_neg (by simp),show fn174 (⟨(L o)[i].Id,(L o)[i].N,(L o)[i].A,(L o)[i].B⟩:fn163)=some (some (oneN (L o)[i])) from xv314 (L o)[i] ha.1 ha.2]
   simp only [Option.bind_some]
   rw [e] at h1 ⊢
   rw [xv58 s c m (by rw [hl2];simp at h1;omega)]
   simp only [Option.bind_some,xv3 (show i < 9223372036854775807 by omega),stepL])
  (fun s i hi s' hI hg=>by
   have hm:(L o)[i] ∈ L o:=List.getElem_mem hi
   have ha:=ht _ hm
   have h1:=xv73 _ ha.1 ha.2
   simp only [Sum.inl.injEq] at hg
   subst hg
   simp only [L,Option.getD_some,List.length_append] at hI h1 ⊢
   omega)
  (fun s hI=>by
   simp only [fn175_l0,fn175_b0]
   rw [if_neg (by simp)])
  none (by simp [L])
 have run:∀ (l:List fn163) (s:Option (List UInt8)),∃ t,runL (fun (s:Option (List UInt8)) (a:fn163)=>(.inl (some (L s++oneN a)):Option (List UInt8) ⊕ (Unit ⊕ Option (List UInt8)))) (fun s=>.inr s) s l=.inr t∧L t=L s++secN l:=by
  intro l
  induction l with
  | nil=>intro s;exact ⟨s,rfl,by simp [secN]⟩
  | cons a l ih =>
   intro s
   obtain ⟨t,h1,h2⟩:=ih (some (L s++oneN a))
   exact ⟨t,h1,by rw [h2];simp [L,secN]⟩
 obtain ⟨t,h1,h2⟩:=run (L o) none
 have h2:L t=secN (L o):=by rw [h2];simp [L]
 rw [h1] at key
 rw [key]
 simp only [Option.bind_some]
 have hu:(u32 ((L t).length:Int)).toNat=(secN (L o)).length:=by rw [h2,u32_toNat'];omega
 rw [if_neg (by rw [h2];simp;omega),xv168 b _ (by omega),hu,if_neg (by omega)]
 simp only [Option.bind_some]
 have h4:=xv61 4 (secN (L o)).length (by have:(128:Nat) ^ 4=268435456:=(by decide);omega)
 rw [xv14 (y:=t) (by rw [h2];simp [room];omega) (by rw [h2];simp [room];omega),h2]
 simp [putN]
def secV (v:Int) (l:List fn163):List UInt8:=if v=4 then [] else putN l
def codeN (v:Int) (p:fn113):List UInt8:=if v=4∨(p.Code=0∧L p.Props=[]) then [] else if L p.Props=[] then [p.Code] else p.Code::putN (L p.Props)
def filN (k:Int) (l:List fn112):List UInt8:=l.flatMap fun f=>binN f.Text++if k=8 then [f.Opt] else []
structure Lay (l:List fn163):Prop where
 len:l.length ≤ 1000
 txt:∀ x ∈ l,x.A.length ≤ 9000∧x.B.length ≤ 9000
 ok:l.all okB=true
theorem xv46 (v:Int) {l:List fn163} (h:Lay l):(secV v l).length ≤ 18200000:=by
 have h1:=xv165 l h.len h.txt
 have h2:=h.len
 simp only [secV]
 split
 ·simp
 ·omega
theorem xv22 (v:Int) (b:Option (List UInt8)) (o:Option (List fn140)) (h:Lay ((L o).map pR)) (hb:(L b).length ≤ 130000000000000):∃ x,fn43 v b o=some x∧L x=L b++secV v ((L o).map pR):=by
 have h1:=h.len
 rw [List.length_map] at h1
 simp only [fn43,secV]
 by_cases hv:v=4
 ·exact ⟨b,by simp [hv],by simp [hv]⟩
 ·rw [if_neg (by simp [hv]),xv160 b o hb h1 (fun x hx=>h.txt (pR x) (List.mem_map.2 ⟨x,hx,rfl⟩)),h.ok,if_pos rfl,if_neg hv]
  exact ⟨_,rfl,rfl⟩
theorem xv13 (v:Int) (b:Option (List UInt8)) (o:Option (List fn163)) (h:Lay (L o)) (hb:(L b).length ≤ 130000000000000):∃ x,fn88 v b o=some x∧L x=L b++secV v (L o):=by
 simp only [fn88,secV]
 by_cases hv:v=4
 ·exact ⟨b,by simp [hv],by simp [hv]⟩
 ·rw [if_neg (by simp [hv]),xv317 b o hb h.len h.txt h.ok,if_neg hv]
  exact ⟨_,rfl,rfl⟩
theorem len0 {α:Type} (l:List α):decide ((l.length:Int)=0)=decide (l=[]):=by
 cases l<;>simp<;>omega
theorem xv145 (v:Int) (b:Option (List UInt8)) (q:fn60) (h:Lay ((L q.Props).map pR)) (hb:(L b).length ≤ 130000000):∃ x,fn85 v b q=some x∧L x=L b++codeN v (nP q):=by
 have hl:lim=140737488300000:=rfl
 have h1:=h.len
 rw [List.length_map] at h1
 have c1:∀ k:Option (List UInt8)->Option (Option (List UInt8)),fn85_c1 b q k=k (some (L b++q.Code::putN ((L q.Props).map pR))):=fun k=>by
  simp only [fn85_c1]
  rw [xv37 b q.Code (by omega)]
  simp only [Option.bind_some]
  rw [xv160 _ q.Props (by simp [L,xv9];simp [L] at hb;omega) h1 (fun x hx=>h.txt (pR x) (List.mem_map.2 ⟨x,hx,rfl⟩)),h.ok,if_pos rfl]
  simp [L,be1]
 have e1:L (nP q).Props=(L q.Props).map pR:=rfl
 have e2:(nP q).Code=q.Code:=rfl
 simp only [fn85,fn85_c0,c1,codeN,e1,e2,len0]
 by_cases hv:v=4
 ·exact ⟨b,by simp [hv],by simp [hv]⟩
 ·by_cases hp:L q.Props=[]
  ·by_cases hc:q.Code=0
   ·exact ⟨b,by simp [hv,hp,hc],by simp [hv,hp,hc]⟩
   ·refine ⟨some (L b++[q.Code]),?_,by simp [hv,hp,hc,L]⟩
    rw [xv37 b q.Code (by omega)]
    simp [hv,hp,hc,be1]
  ·have hp2:(L q.Props).map pR ≠ []:=by simpa using hp
   by_cases hc:q.Code=0
   ·exact ⟨some (L b++q.Code::putN ((L q.Props).map pR)),by simp [hv,hp,hc],by simp [hv,hp,hc,L]⟩
   ·exact ⟨some (L b++q.Code::putN ((L q.Props).map pR)),by simp [hv,hp,hc],by simp [hv,hp,hc,L]⟩
theorem xv113 (v:Int) (b:Option (List UInt8)) (p:fn113) (h:Lay (L p.Props)) (hb:(L b).length ≤ 130000000):∃ x,fn160 v b p=some x∧L x=L b++codeN v p:=by
 have hl:lim=140737488300000:=rfl
 have a1:=xv58 b p.Code [] (by rw [hl];simp;omega)
 simp only [fn160,fn160_c0,codeN,len0,rsec1,a1,Option.bind_some]
 by_cases hv:v=4
 ·exact ⟨b,by simp [hv],by simp [hv]⟩
 ·obtain ⟨x,s1,s2⟩:=xv13 v (some (L b++[p.Code])) p.Props h (by simp [L];simp [L] at hb;omega)
  have s3:L x=L b++p.Code::putN (L p.Props):=by rw [s2];simp [L,secV,hv]
  by_cases hp:L p.Props=[]
  ·by_cases hc:p.Code=0
   ·exact ⟨b,by simp [hv,hp,hc],by simp [hv,hp,hc]⟩
   ·exact ⟨_,by simp [hv,hp,hc];rfl,by simp [hv,hp,hc,L]⟩
  ·rw [s1]
   by_cases hc:p.Code=0
   ·exact ⟨x,by simp [hv,hp,hc],by simp [hv,hp,hc,s3]⟩
   ·exact ⟨x,by simp [hv,hp,hc],by simp [hv,hp,hc,s3]⟩
end Go.Rv
namespace Go.Rv
theorem be1c (c:UInt8):be 1 c.toNat=[c]:=by
 have:=c.toNat_lt
 rw [be1,Nat.mod_eq_of_lt (by omega),UInt8.ofNat_toNat]
theorem xv4 (x:List UInt8):(binN x).length=2 + x.length:=by simp [binN,xv9]
theorem xv151 {α:Type} (k:Int) (tx:α->List UInt8) (op:α->UInt8):∀ (l:List α) (s:Option (List UInt8)),
 ∃ t,runL (fun (s:Option (List UInt8)) (a:α)=>(.inl (some (L s++(binN (tx a)++if k=8 then [op a] else []))):Option (List UInt8) ⊕ Option (List UInt8))) (fun s=>s) s l=t∧L t=L s++l.flatMap fun a=>binN (tx a)++if k=8 then [op a] else []
 | [],s=>⟨s,rfl,by simp⟩
 | a::l,s=>by
  obtain ⟨t,h1,h2⟩:=xv151 k tx op l (some (L s++(binN (tx a)++if k=8 then [op a] else [])))
  exact ⟨t,h1,by rw [h2];simp [L]⟩
theorem xv92 (b:Option (List UInt8)) (q:fn60) (h1:(L q.Filters).length ≤ 1000) (h2:∀ f ∈ L q.Filters,f.Text.length ≤ 9000) (hb:(L b).length ≤ 100000000) :
 ∃ x,fn46 b q=some x∧L x=L b++filN q.Kind ((L q.Filters).map fR):=by
 have hl:lim=140737488300000:=rfl
 simp only [fn46]
 have key:=xv19 (L q.Filters) (fn46_l0 q.Filters ((L q.Filters).length:Int) q) (fun (s:Option (List UInt8)) i=>(s,i)) (fun (s:Option (List UInt8)) (a:fn59)=>(.inl (some (L s++(binN a.Text++if q.Kind=8 then [a.Opt] else []))):Option (List UInt8) ⊕ Option (List UInt8))) (fun s=>s) (fun i s=>(L s).length ≤ 100000000 + 9100 * i)
  (fun s i hi hI=>by
   have hm:(L q.Filters)[i] ∈ L q.Filters:=List.getElem_mem hi
   have ha:=h2 _ hm
   simp only [fn46_l0,fn46_b0]
   rw [if_pos (by simp;omega),xv1,List.getElem?_eq_getElem hi]
   simp only [Option.bind_some]
   rw [xv30 s _ (by omega) (by omega)]
   simp only [Option.bind_some,xv3 (show i < 9223372036854775807 by omega),stepL]
   by_cases hk:q.Kind=8
   ·rw [if_pos (by simpa using hk),xv58 _ _ [] (by show (L s++binN (L q.Filters)[i].Text).length + 0 + 1 ≤ _;rw [List.length_append,xv4];omega)]
    simp [hk,L,binN]
   ·rw [if_neg (by simpa using hk)]
    simp [hk,L,binN])
  (fun s i hi s' hI hg=>by
   have hm:(L q.Filters)[i] ∈ L q.Filters:=List.getElem_mem hi
   have ha:=h2 _ hm
   simp only [Sum.inl.injEq] at hg
   subst hg
   have hn:=xv4 (L q.Filters)[i].Text
   show (L s++(binN (L q.Filters)[i].Text++if q.Kind=8 then [(L q.Filters)[i].Opt] else [])).length ≤ _
   rw [List.length_append,List.length_append,hn]
   split<;>simp<;>omega)
  (fun s hI=>by
   simp only [fn46_l0,fn46_b0]
   rw [if_neg (by simp)])
  b (by omega)
 obtain ⟨t,g1,g2⟩:=xv151 q.Kind (fun a:fn59=>a.Text) (fun a=>a.Opt) (L q.Filters) b
 rw [g1] at key
 rw [key]
 refine ⟨t,rfl,?_⟩
 rw [g2,filN,List.flatMap_map]
 rfl
theorem xv83 (b:Option (List UInt8)) (p:fn113) (h1:(L p.Filters).length ≤ 1000) (h2:∀ f ∈ L p.Filters,f.Text.length ≤ 9000) (hb:(L b).length ≤ 100000000) :
 ∃ x,iter (fn108_l3 p) (b,0)=some x∧L x=L b++filN p.Kind (L p.Filters):=by
 have hl:lim=140737488300000:=rfl
 have key:=xv19 (L p.Filters) (fn108_l3 p) (fun (s:Option (List UInt8)) i=>(s,i)) (fun (s:Option (List UInt8)) (a:fn112)=>(.inl (some (L s++(binN a.Text++if p.Kind=8 then [a.Opt] else []))):Option (List UInt8) ⊕ Option (List UInt8))) (fun s=>s) (fun i s=>(L s).length ≤ 100000000 + 9100 * i)
  (fun s i hi hI=>by
   have hm:(L p.Filters)[i] ∈ L p.Filters:=List.getElem_mem hi
   have ha:=h2 _ hm
   simp only [fn108_l3,fn108_b3,rBin1]
   rw [if_pos (by simp;omega),xv1,List.getElem?_eq_getElem hi]
   simp only [Option.bind_some]
   rw [xv34 s _ (by omega) (by omega)]
   simp only [Option.bind_some,xv3 (show i < 9223372036854775807 by omega),stepL]
   by_cases hk:p.Kind=8
   ·rw [if_pos (by simpa using hk),xv58 _ _ [] (by show (L s++binN (L p.Filters)[i].Text).length + 0 + 1 ≤ _;rw [List.length_append,xv4];omega)]
    simp [hk,L,binN]
   ·rw [if_neg (by simpa using hk)]
    simp [hk,L,binN])
  (fun s i hi s' hI hg=>by
   have hm:(L p.Filters)[i] ∈ L p.Filters:=List.getElem_mem hi
   have ha:=h2 _ hm
   simp only [Sum.inl.injEq] at hg
   subst hg
   have hn:=xv4 (L p.Filters)[i].Text
   show (L s++(binN (L p.Filters)[i].Text++if p.Kind=8 then [(L p.Filters)[i].Opt] else [])).length ≤ _
   rw [List.length_append,List.length_append,hn]
   split<;>simp<;>omega)
  (fun s hI=>by
   simp only [fn108_l3,fn108_b3]
   rw [if_neg (by simp)])
  b (by omega)
 obtain ⟨t,g1,g2⟩:=xv151 p.Kind (fun a:fn112=>a.Text) (fun a=>a.Opt) (L p.Filters) b
 rw [g1] at key
 exact ⟨t,key,g2⟩
def fl (b:Bool) (n:UInt8):UInt8:=if b then n else 0
def conF (p:fn113):UInt8:=((((fl p.Clean 2 ||| fl p.HasWill 4) ||| (8 * p.WillQoS)) ||| fl p.WillRetain 32) ||| fl p.HasPass 64) ||| fl p.HasUser 128
def conB (v:Int) (p:fn113):List UInt8 :=
 binN [77,81,84,84]++[u8 v,conF p]++be 2 p.Keep.toNat++secV v (L p.Props)++binN p.Client++(if p.HasWill then secV v (L p.WillProps)++binN p.WillTopic++binN p.WillLoad else [])++(if p.HasUser then binN p.User else [])++(if p.HasPass then binN p.Pass else [])
theorem xv277 (b:Bool) (n:UInt8):fn104 b n=some (fl b n):=by cases b<;>rfl
structure Txt (p:fn113):Prop where
 cl:p.Client.length ≤ 65535
 wt:p.WillTopic.length ≤ 65535
 wl:p.WillLoad.length ≤ 65535
 us:p.User.length ≤ 65535
 ps:p.Pass.length ≤ 65535
 tp:p.Topic.length ≤ 65535
 ld:p.Load.length ≤ 1000000
 cs:(L p.Codes).length ≤ 1000000
 fl:(L p.Filters).length ≤ 1000
 ft:∀ f ∈ L p.Filters,f.Text.length ≤ 9000
 pp:Lay (L p.Props)
 wp:Lay (L p.WillProps)
theorem lenA {x:Option (List UInt8)} {l m:List UInt8} (h:L x=l++m):(L x).length=l.length + m.length:=by rw [h,List.length_append]
theorem xv291 (v:Int) (b:Option (List UInt8)) (q:fn60) (h:Txt (nP q)) (hb:(L b).length ≤ 1000):∃ x,fn44 v b q=some x∧L x=L b++conB v (nP q):=by
 have hl:lim=140737488300000:=rfl
 have h1:q.Client.length ≤ 65535:=h.cl
 have h2:q.WillTopic.length ≤ 65535:=h.wt
 have h3:q.WillLoad.length ≤ 65535:=h.wl
 have h4:q.User.length ≤ 65535:=h.us
 have h5:q.Pass.length ≤ 65535:=h.ps
 have hp:Lay ((L q.Props).map pR):=h.pp
 have hw:Lay ((L q.WillProps).map pR):=h.wp
 have c1:∀ (x:Option (List UInt8)) (k:Option (List UInt8)->Option (Option (List UInt8))),(L x).length ≤ 100000000->∃ y,fn44_c1 x q k=k y∧L y=L x++if q.HasPass then binN q.Pass else []:=fun x k hx=>by
  simp only [fn44_c1]
  cases q.HasPass with
  | false=>exact ⟨x,rfl,by simp⟩
  | true=>exact ⟨some (L x++binN q.Pass),by rw [if_pos rfl,xv30 x _ h5 (by omega)];rfl,rfl⟩
 have c0:∀ (x:Option (List UInt8)) (k:Option (List UInt8)->Option (Option (List UInt8))),(L x).length ≤ 90000000->∃ y,fn44_c0 x q k=k y∧L y=L x++((if q.HasUser then binN q.User else [])++if q.HasPass then binN q.Pass else []):=fun x k hx=>by
  simp only [fn44_c0]
  cases q.HasUser with
  | false =>
   obtain ⟨y,e1,e2⟩:=c1 x k (by omega)
   exact ⟨y,e1,by rw [e2];simp⟩
  | true =>
   rw [if_pos rfl,xv30 x _ h4 (by omega)]
   obtain ⟨y,e1,e2⟩:=c1 (some (L x++binN q.User)) k (by show (L x++binN q.User).length ≤ _;rw [List.length_append,xv4];omega)
   exact ⟨y,e1,by rw [e2];simp [L]⟩
 have hs1:=xv46 v hp
 have hs2:=xv46 v hw
 have eP:L (nP q).Props=(L q.Props).map pR:=rfl
 have eW:L (nP q).WillProps=(L q.WillProps).map pR:=rfl
 simp only [fn44,xv277,Option.bind_some]
 rw [xv30 b _ (by simp) (by simp;omega)]
 simp only [Option.bind_some]
 rw [xv37 _ _ (by simp [L,xv9];simp [L] at hb;omega)]
 simp only [Option.bind_some]
 rw [xv37 _ _ (by simp [L,xv9];simp [L] at hb;omega)]
 simp only [Option.bind_some]
 rw [xv57 _ _ (by simp [L,xv9];simp [L] at hb;omega)]
 simp only [Option.bind_some]
 generalize hX:(some (L (some (L (some (L (some (L b++(be 2 [77,81,84,84].length++[77,81,84,84])))++be 1 (u8 v).toNat))++be 1 (((((fl q.Clean 2 ||| fl q.HasWill 4) ||| 8 * q.WillQoS) ||| fl q.WillRetain 32) ||| fl q.HasPass 64) ||| fl q.HasUser 128).toNat))++be 2 q.Keep.toNat):Option (List UInt8))=X
 have lX:L X=L b++(binN [77,81,84,84]++[u8 v,conF (nP q)]++be 2 q.Keep.toNat):=by
  rw [← hX]
  simp only [be1c]
  simp [L,binN,conF,nP]
 have nX:(L X).length ≤ 2000:=by rw [lX];simp [binN,xv9];omega
 obtain ⟨y,s1,s2⟩:=xv22 v X q.Props hp (by omega)
 have n2:=lenA s2
 rw [s1]
 simp only [Option.bind_some]
 rw [xv30 y _ h1 (by omega)]
 simp only [Option.bind_some]
 have fin:∀ (z:Option (List UInt8)),L z=L X++(secV v ((L q.Props).map pR)++binN q.Client)++(if q.HasWill then secV v ((L q.WillProps).map pR)++binN q.WillTopic++binN q.WillLoad else [])->(L z).length ≤ 90000000->∃ x,fn44_c0 z q (fun x28=>some x28)=some x∧L x=L b++conB v (nP q):=fun z hz hn=>by
  obtain ⟨y,e1,e2⟩:=c0 z (fun x=>some x) hn
  refine ⟨y,e1,?_⟩
  rw [e2,hz,lX]
  simp only [conB,eP,eW,List.append_assoc]
  rfl
 have lz:L (some (L y++(be 2 q.Client.length++q.Client)))=L X++(secV v ((L q.Props).map pR)++binN q.Client):=by
  show L y++binN q.Client=_
  rw [s2,List.append_assoc]
 cases hwl:q.HasWill with
 | false =>
  rw [if_neg (by simp)]
  refine fin _ (by rw [lz,hwl];simp) (by rw [lz];simp [xv4];omega)
 | true =>
  rw [if_pos rfl]
  have n3:(L (some (L y++(be 2 q.Client.length++q.Client)))).length ≤ 20000000:=by rw [lz];simp [xv4];omega
  obtain ⟨z,t1,t2⟩:=xv22 v (some (L y++(be 2 q.Client.length++q.Client))) q.WillProps hw (by omega)
  have n4:=lenA t2
  rw [t1]
  simp only [Option.bind_some]
  rw [xv30 z _ h2 (by omega)]
  simp only [Option.bind_some]
  have n5:(L (some (L z++(be 2 q.WillTopic.length++q.WillTopic)))).length=(L z).length + (2 + q.WillTopic.length):=by
   show (L z++binN q.WillTopic).length=_
   rw [List.length_append,xv4]
  rw [xv30 _ _ h3 (by omega)]
  simp only [Option.bind_some]
  have lw:L (some (L (some (L z++(be 2 q.WillTopic.length++q.WillTopic)))++(be 2 q.WillLoad.length++q.WillLoad)))=L z++(binN q.WillTopic++binN q.WillLoad):=by
   show (L z++binN q.WillTopic)++binN q.WillLoad=_
   rw [List.append_assoc]
  refine fin _ (by rw [lw,t2,lz,hwl];simp) (by rw [lw];simp [xv4];omega)
end Go.Rv
namespace Go.Rv
theorem xv233 (b:Bool) (n:Int):fn172 b n=some (if b then n else 0):=by cases b<;>rfl
theorem xv202 (a b c d e:Bool) (q:UInt8) (hq:¬ q > 2):u8 (w64 ((w64 ((w64 ((w64 ((w64 ((if a then (2:Int) else 0) + (if b then (4:Int) else 0))) + (w64 (8 * (w64 (q.toNat:Int)))))) + (if c then (32:Int) else 0))) + (if d then (64:Int) else 0))) + (if e then (128:Int) else 0)))=((((fl a 2 ||| fl b 4) ||| (8 * q)) ||| fl c 32) ||| fl d 64) ||| fl e 128:=by
 have h:q.toNat ≤ 2:=by
  have:¬ (2:UInt8).toNat < q.toNat:=hq
  have e2:(2:UInt8).toNat=2:=rfl
  omega
 have:q=0∨q=1∨q=2:=by
  have h3:q.toNat=0∨q.toNat=1∨q.toNat=2:=by omega
  rcases h3 with h3|h3|h3
  ·exact .inl (UInt8.toNat_inj.1 h3)
  ·exact .inr (.inl (UInt8.toNat_inj.1 h3))
  ·exact .inr (.inr (UInt8.toNat_inj.1 h3))
 rcases this with rfl|rfl|rfl<;>cases a<;>cases b<;>cases c<;>cases d<;>cases e<;>decide +kernel
theorem xv312 (v:Int) (p:fn113) (h:Txt p) (hq:¬ p.WillQoS > 2):∃ x,fn89 v p=some x∧L x=conB v p:=by
 have hl:lim=140737488300000:=rfl
 have h1:=h.cl
 have h2:=h.wt
 have h3:=h.wl
 have h4:=h.us
 have h5:=h.ps
 have hp:=h.pp
 have hw:=h.wp
 have c1:∀ (x:Option (List UInt8)) (k:Option (List UInt8)->Option (Option (List UInt8))),(L x).length ≤ 100000000->∃ y,fn89_c1 x p k=k y∧L y=L x++if p.HasPass then binN p.Pass else []:=fun x k hx=>by
  simp only [fn89_c1]
  cases p.HasPass with
  | false=>exact ⟨x,rfl,by simp⟩
  | true=>exact ⟨some (L x++binN p.Pass),by rw [if_pos rfl,xv34 x _ h5 (by omega)];rfl,rfl⟩
 have c0:∀ (x:Option (List UInt8)) (k:Option (List UInt8)->Option (Option (List UInt8))),(L x).length ≤ 90000000->∃ y,fn89_c0 x p k=k y∧L y=L x++((if p.HasUser then binN p.User else [])++if p.HasPass then binN p.Pass else []):=fun x k hx=>by
  simp only [fn89_c0]
  cases p.HasUser with
  | false =>
   obtain ⟨y,e1,e2⟩:=c1 x k (by omega)
   exact ⟨y,e1,by rw [e2];simp⟩
  | true =>
   rw [if_pos rfl,xv34 x _ h4 (by omega)]
   obtain ⟨y,e1,e2⟩:=c1 (some (L x++binN p.User)) k (by show (L x++binN p.User).length ≤ _;rw [List.length_append,xv4];omega)
   exact ⟨y,e1,by rw [e2];simp [L]⟩
 have hs1:=xv46 v hp
 have hs2:=xv46 v hw
 have hk:=p.Keep.toNat_lt
 simp only [fn89,xv233,Option.bind_some]
 rw [xv34 none _ (by simp) (by simp [L,hl])]
 simp only [Option.bind_some]
 rw [xv202 _ _ _ _ _ _ hq,xv58 _ _ [_] (by simp [L,xv9,hl])]
 simp only [Option.bind_some]
 rw [show (2:Int)=((2:Nat):Int) from rfl,xv111 _ _ 2 (by omega) (by simp [L,xv9,hl]),xv127 (by omega)]
 simp only [Option.bind_some]
 generalize hX:(some (L (some (L (some (L (none:Option (List UInt8))++(be 2 [77,81,84,84].length++[77,81,84,84])))++u8 v::[((((fl p.Clean 2 ||| fl p.HasWill 4) ||| (8 * p.WillQoS)) ||| fl p.WillRetain 32) ||| fl p.HasPass 64) ||| fl p.HasUser 128]))++be 2 p.Keep.toNat):Option (List UInt8))=X
 have lX:L X=binN [77,81,84,84]++[u8 v,conF p]++be 2 p.Keep.toNat:=by
  rw [← hX]
  simp [L,binN,conF]
 have nX:(L X).length ≤ 2000:=by rw [lX];simp [binN,xv9]
 obtain ⟨y,s1,s2⟩:=xv13 v X p.Props hp (by omega)
 have n2:=lenA s2
 rw [s1]
 simp only [Option.bind_some]
 rw [xv34 y _ h1 (by omega)]
 simp only [Option.bind_some]
 have fin:∀ (z:Option (List UInt8)),L z=L X++(secV v (L p.Props)++binN p.Client)++(if p.HasWill then secV v (L p.WillProps)++binN p.WillTopic++binN p.WillLoad else [])->(L z).length ≤ 90000000->∃ x,fn89_c0 z p (fun x28=>some x28)=some x∧L x=conB v p:=fun z hz hn=>by
  obtain ⟨y,e1,e2⟩:=c0 z (fun x=>some x) hn
  refine ⟨y,e1,?_⟩
  rw [e2,hz,lX]
  simp only [conB,List.append_assoc]
 have lz:L (some (L y++(be 2 p.Client.length++p.Client)))=L X++(secV v (L p.Props)++binN p.Client):=by
  show L y++binN p.Client=_
  rw [s2,List.append_assoc]
 cases hwl:p.HasWill with
 | false =>
  rw [if_neg (by simp)]
  refine fin _ (by rw [lz,hwl];simp) (by rw [lz];simp [xv4];omega)
 | true =>
  rw [if_pos rfl]
  have n3:(L (some (L y++(be 2 p.Client.length++p.Client)))).length ≤ 20000000:=by rw [lz];simp [xv4];omega
  obtain ⟨z,t1,t2⟩:=xv13 v (some (L y++(be 2 p.Client.length++p.Client))) p.WillProps hw (by omega)
  have n4:=lenA t2
  rw [t1]
  simp only [Option.bind_some]
  rw [xv34 z _ h2 (by omega)]
  simp only [Option.bind_some]
  have n5:(L (some (L z++(be 2 p.WillTopic.length++p.WillTopic)))).length=(L z).length + (2 + p.WillTopic.length):=by
   show (L z++binN p.WillTopic).length=_
   rw [List.length_append,xv4]
  rw [xv34 _ _ h3 (by omega)]
  simp only [Option.bind_some]
  have lw:L (some (L (some (L z++(be 2 p.WillTopic.length++p.WillTopic)))++(be 2 p.WillLoad.length++p.WillLoad)))=L z++(binN p.WillTopic++binN p.WillLoad):=by
   show (L z++binN p.WillTopic)++binN p.WillLoad=_
   rw [List.append_assoc]
  refine fin _ (by rw [lw,t2,lz,hwl];simp) (by rw [lw];simp [xv4];omega)
def behN (v:Int) (p:fn113):List UInt8 :=
 if p.Kind=1 then conB v p
 else if p.Kind=2 then [fl p.Present 1,p.Code]++secV v (L p.Props)
 else if p.Kind=3 then binN p.Topic++(if p.QoS > 0 then be 2 p.Id.toNat else [])++secV v (L p.Props)++p.Load
 else if p.Kind=4∨p.Kind=5∨p.Kind=6∨p.Kind=7 then be 2 p.Id.toNat++codeN v p
 else if p.Kind=8∨p.Kind=10 then be 2 p.Id.toNat++secV v (L p.Props)++filN p.Kind (L p.Filters)
 else if p.Kind=9∨p.Kind=11 then be 2 p.Id.toNat++secV v (L p.Props)++L p.Codes
 else if p.Kind=14∨p.Kind=15 then codeN v p
 else []
theorem xv87 (x y:Option (List UInt8)) (h:(L x).length + (L y).length ≤ lim):∃ z,appO 1 x y=some z∧L z=L x++L y:=by
 simp only [lim] at h
 cases x with
 | some x=>exact ⟨_,xv14 (by simp [room];simp [L] at h ⊢;omega) (by simp [room];simp [L] at h ⊢;omega),rfl⟩
 | none =>
  cases hy:L y with
  | nil =>
   refine ⟨none,?_,by simp [L]⟩
   cases y with
   | none=>rfl
   | some y=>simp only [L,Option.getD_some] at hy;subst hy;rfl
  | cons a l =>
   cases y with
   | none=>simp [L] at hy
   | some y =>
    simp only [L,Option.getD_some] at hy;subst hy
    exact ⟨_,xv58 none a l (by simp [L,lim] at h ⊢;omega),by simp [L]⟩
theorem kinds {k:Int} (h:1 ≤ k∧k ≤ 15):k=1∨k=2∨k=3∨(k=4∨k=5∨k=6∨k=7)∨(k=8∨k=10)∨(k=9∨k=11)∨(k=14∨k=15)∨(k=12∨k=13):=by omega
theorem xv290 (v:Int) (b:Option (List UInt8)) (q:fn60) (h:Txt (nP q)) (hk:1 ≤ q.Kind∧q.Kind ≤ 15) (hb:(L b).length ≤ 1000):∃ x,fn55 v b q=some x∧L x=L b++behN v (nP q):=by
 have hl:lim=140737488300000:=rfl
 have hp:Lay ((L q.Props).map pR):=h.pp
 have hs1:=xv46 v hp
 have ht:q.Topic.length ≤ 65535:=h.tp
 have hld:q.Load.length ≤ 1000000:=h.ld
 have hcs:(L q.Codes).length ≤ 1000000:=h.cs
 have e1:(nP q).Kind=q.Kind:=rfl
 have e2:L (nP q).Props=(L q.Props).map pR:=rfl
 have e3:L (nP q).Codes=L q.Codes:=rfl
 have e4:L (nP q).Filters=(L q.Filters).map fR:=rfl
 have t2:=xv57 b q.Id (by omega)
 have n2:(L (some (L b++be 2 q.Id.toNat))).length=(L b).length + 2:=by simp [L,xv9]
 obtain ⟨cx,c1,c2⟩:=xv145 v (some (L b++be 2 q.Id.toNat)) q hp (by omega)
 obtain ⟨dx,d1,d2⟩:=xv145 v b q hp (by omega)
 obtain ⟨sx,s1,s2⟩:=xv22 v (some (L b++be 2 q.Id.toNat)) q.Props hp (by omega)
 have ns:=lenA s2
 obtain ⟨fx,f1,f2⟩:=xv92 sx q (by have:=h.fl;rw [e4,List.length_map] at this;exact this) (fun f hf=>h.ft (fR f) (by rw [e4];exact List.mem_map.2 ⟨f,hf,rfl⟩)) (by omega)
 obtain ⟨ax,a1,a2⟩:=xv87 sx q.Codes (by omega)
 have c1':fn85 v (some (L b++be 2 q.Id.toNat)) (⟨q.Kind,q.Dup,q.Retain,q.QoS,q.Id,q.Clean,q.Keep,q.Client,q.HasWill,q.HasUser,q.HasPass,q.WillQoS,q.WillRetain,q.WillProps,q.WillTopic,q.WillLoad,q.User,q.Pass,q.Present,q.Code,q.Topic,q.Load,q.Filters,q.Codes,q.Props⟩:fn60)=some cx:=c1
 have d1':fn85 v b (⟨q.Kind,q.Dup,q.Retain,q.QoS,q.Id,q.Clean,q.Keep,q.Client,q.HasWill,q.HasUser,q.HasPass,q.WillQoS,q.WillRetain,q.WillProps,q.WillTopic,q.WillLoad,q.User,q.Pass,q.Present,q.Code,q.Topic,q.Load,q.Filters,q.Codes,q.Props⟩:fn60)=some dx:=d1
 have f1':fn46 sx (⟨q.Kind,q.Dup,q.Retain,q.QoS,q.Id,q.Clean,q.Keep,q.Client,q.HasWill,q.HasUser,q.HasPass,q.WillQoS,q.WillRetain,q.WillProps,q.WillTopic,q.WillLoad,q.User,q.Pass,q.Present,q.Code,q.Topic,q.Load,q.Filters,q.Codes,q.Props⟩:fn60)=some fx:=f1
 rcases kinds hk with k|k|k|k|k|k|k|k
 ·obtain ⟨x,g1,g2⟩:=xv291 v b q h hb
  refine ⟨x,?_,?_⟩
  ·simp only [fn55]
   rw [if_pos (by simp [k]),g1];rfl
  ·rw [g2];simp only [behN,e1,k,if_true]
 ·obtain ⟨x,g1,g2⟩:=xv22 v (some (L b++[fl q.Present 1,q.Code])) q.Props hp (by simp [L];simp [L] at hb;omega)
  refine ⟨x,?_,?_⟩
  ·simp only [fn55]
   rw [if_neg (by simp [k]),if_pos (by simp [k]),xv277]
   simp only [Option.bind_some,xv344,sec1]
   rw [xv37 b _ (by omega)]
   simp only [Option.bind_some]
   rw [xv37 _ _ (by simp [L,xv9];simp [L] at hb;omega),be1c,be1c]
   simp only [Option.bind_some]
   rw [show (some (L (some (L b++[fl q.Present 1]))++[q.Code]):Option (List UInt8))=some (L b++[fl q.Present 1,q.Code]) by simp [L],g1]
   rfl
  ·rw [g2];simp only [behN,e1];rw [if_neg (by omega),if_pos k];simp [L,nP]
 ·have hpub:∃ x,fn45 v b q=some x∧L x=L b++(binN q.Topic++(if q.QoS > 0 then be 2 q.Id.toNat else [])++secV v ((L q.Props).map pR)++q.Load):=by
   simp only [fn45,fn45_c0,wTwo1,sec1]
   rw [xv30 b _ ht (by omega)]
   simp only [Option.bind_some]
   have nb:(L (some (L b++(be 2 q.Topic.length++q.Topic)))).length=(L b).length + (2 + q.Topic.length):=by
    show (L b++binN q.Topic).length=_
    rw [List.length_append,xv4]
   by_cases hq:q.QoS > 0
   ·rw [if_pos (by simpa using hq),xv57 _ _ (by omega),if_pos hq]
    simp only [Option.bind_some]
    have nb2:(L (some (L (some (L b++(be 2 q.Topic.length++q.Topic)))++be 2 q.Id.toNat))).length=(L b).length + (2 + q.Topic.length) + 2:=by
     show (L (some (L b++(be 2 q.Topic.length++q.Topic)))++be 2 q.Id.toNat).length=_
     rw [List.length_append,xv9,nb]
    obtain ⟨x,g1,g2⟩:=xv22 v (some (L (some (L b++(be 2 q.Topic.length++q.Topic)))++be 2 q.Id.toNat)) q.Props hp (by omega)
    have n3:=lenA g2
    rw [g1]
    simp only [Option.bind_some]
    obtain ⟨y,y1,y2⟩:=xv87 x (some q.Load) (by show _ + q.Load.length ≤ _;omega)
    exact ⟨y,by rw [y1];rfl,by rw [y2,g2];simp [L,binN]⟩
   ·rw [if_neg (by simpa using hq),if_neg hq]
    obtain ⟨x,g1,g2⟩:=xv22 v (some (L b++(be 2 q.Topic.length++q.Topic))) q.Props hp (by omega)
    have n3:=lenA g2
    rw [g1]
    simp only [Option.bind_some]
    obtain ⟨y,y1,y2⟩:=xv87 x (some q.Load) (by show _ + q.Load.length ≤ _;omega)
    exact ⟨y,by rw [y1];rfl,by rw [y2,g2];simp [L,binN]⟩
  obtain ⟨x,g1,g2⟩:=hpub
  refine ⟨x,?_,?_⟩
  ·simp only [fn55]
   rw [if_neg (by simp [k]),if_neg (by simp [k]),if_pos (by simp [k]),g1];rfl
  ·rw [g2];simp only [behN,e1];rw [if_neg (show ¬ q.Kind=1 by omega),if_neg (show ¬ q.Kind=2 by omega),if_pos k];rfl
 ·refine ⟨cx,?_,?_⟩
  ·simp only [fn55,fn55_c0,code1,t2,c1',Option.bind_some]
   rcases k with k|k|k|k<;>simp [k]
  ·rw [c2];simp only [behN,e1]
   rw [if_neg (by omega),if_neg (by omega),if_neg (by omega),if_pos k];simp [L,nP]
 ·refine ⟨fx,?_,?_⟩
  ·simp only [fn55,fn55_c0,fn55_c1,code1,sec1,fil1,t2,c1',s1,f1',Option.bind_some]
   rcases k with k|k<;>simp [k]
  ·rw [f2,s2];simp only [behN,e1]
   rw [if_neg (by omega),if_neg (by omega),if_neg (by omega),if_neg (by omega),if_pos k];simp [L,nP]
 ·refine ⟨ax,?_,?_⟩
  ·simp only [fn55,fn55_c0,fn55_c1,fn55_c2,code1,sec1,fil1,t2,c1',s1,f1',a1,Option.bind_some]
   rcases k with k|k<;>simp [k]
  ·rw [a2,s2];simp only [behN,e1]
   rw [if_neg (by omega),if_neg (by omega),if_neg (by omega),if_neg (by omega),if_neg (by omega),if_pos k];simp [L,nP]
 ·refine ⟨dx,?_,?_⟩
  ·simp only [fn55,fn55_c0,fn55_c1,fn55_c2,fn55_c3,code1,sec1,fil1,t2,c1',d1',s1,f1',a1,Option.bind_some]
   rcases k with k|k<;>simp [k]
  ·rw [d2];simp only [behN,e1]
   rw [if_neg (by omega),if_neg (by omega),if_neg (by omega),if_neg (by omega),if_neg (by omega),if_neg (by omega),if_pos k]
 ·refine ⟨b,?_,?_⟩
  ·simp only [fn55,fn55_c0,fn55_c1,fn55_c2,fn55_c3,code1,sec1,fil1,t2,c1',d1',s1,f1',a1,Option.bind_some]
   rcases k with k|k<;>simp [k]
  ·simp only [behN,e1]
   rw [if_neg (by omega),if_neg (by omega),if_neg (by omega),if_neg (by omega),if_neg (by omega),if_neg (by omega),if_neg (by omega)];simp
end Go.Rv
namespace Go.Rv
theorem xv225 (v:Int) (p:fn113) (h:Txt p) (hk:1 ≤ p.Kind∧p.Kind ≤ 15) (hwq:p.Kind=1->¬ p.WillQoS > 2):∃ x,fn108 v p=some x∧L x=behN v p:=by
 have hl:lim=140737488300000:=rfl
 have hp:=h.pp
 have hs1:=xv46 v hp
 have ht:=h.tp
 have hld:=h.ld
 have hcs:=h.cs
 have hid:=p.Id.toNat_lt
 have n0:L (none:Option (List UInt8))=[]:=rfl
 have t2:∀ b:Option (List UInt8),(L b).length ≤ 1000000->fn170 b (u64 (p.Id.toNat:Int)) 2=some (some (L b++be 2 p.Id.toNat)):=fun b hb=>by
  rw [show (2:Int)=((2:Nat):Int) from rfl,xv111 b _ 2 (by omega) (by omega),xv127 (by omega)]
 have t2n:=t2 none (by simp [n0])
 rw [n0,List.nil_append] at t2n
 have n2:(L (some (be 2 p.Id.toNat))).length=2:=by simp [L,xv9]
 obtain ⟨cx,c1,c2⟩:=xv113 v (some (be 2 p.Id.toNat)) p hp (by omega)
 obtain ⟨dx,d1,d2⟩:=xv113 v none p hp (by simp [n0])
 obtain ⟨sx,s1,s2⟩:=xv13 v (some (be 2 p.Id.toNat)) p.Props hp (by omega)
 have ns:=lenA s2
 obtain ⟨fx,f1,f2⟩:=xv83 sx p h.fl h.ft (by omega)
 obtain ⟨ax,a1,a2⟩:=xv87 sx p.Codes (by omega)
 have c1':fn160 v (some (be 2 p.Id.toNat)) (⟨p.Kind,p.Dup,p.Retain,p.QoS,p.Id,p.Clean,p.Keep,p.Client,p.HasWill,p.HasUser,p.HasPass,p.WillQoS,p.WillRetain,p.WillProps,p.WillTopic,p.WillLoad,p.User,p.Pass,p.Present,p.Code,p.Topic,p.Load,p.Filters,p.Codes,p.Props⟩:fn113)=some cx:=c1
 have d1':fn160 v none (⟨p.Kind,p.Dup,p.Retain,p.QoS,p.Id,p.Clean,p.Keep,p.Client,p.HasWill,p.HasUser,p.HasPass,p.WillQoS,p.WillRetain,p.WillProps,p.WillTopic,p.WillLoad,p.User,p.Pass,p.Present,p.Code,p.Topic,p.Load,p.Filters,p.Codes,p.Props⟩:fn113)=some dx:=d1
 rcases kinds hk with k|k|k|k|k|k|k|k
 ·obtain ⟨x,g1,g2⟩:=xv312 v p h (hwq k)
  refine ⟨x,?_,?_⟩
  ·simp only [fn108]
   rw [if_pos (by simp [k]),g1];rfl
  ·rw [g2];simp only [behN];rw [if_pos k]
 ·obtain ⟨x,g1,g2⟩:=xv13 v (some [fl p.Present 1,p.Code]) p.Props hp (by simp [L])
  refine ⟨x,?_,?_⟩
  ·simp only [fn108,xv233,rsec1]
   rw [if_neg (by simp [k]),if_pos (by simp [k])]
   simp only [Option.bind_some]
   rw [show u8 (if p.Present=true then (1:Int) else 0)=fl p.Present 1 by cases p.Present<;>decide +kernel,g1]
   rfl
  ·rw [g2];simp only [behN];rw [if_neg (by omega),if_pos k];rfl
 ·have hpub:∃ x,fn108 v p=some x∧L x=binN p.Topic++(if p.QoS > 0 then be 2 p.Id.toNat else [])++secV v (L p.Props)++p.Load:=by
   simp only [fn108,fn108_c0,rNum1,rBin1,rsec1]
   rw [if_neg (by simp [k]),if_neg (by simp [k]),if_pos (by simp [k])]
   rw [xv34 none _ ht (by rw [n0];simp;omega)]
   simp only [Option.bind_some]
   have nb:(L (some (L (none:Option (List UInt8))++(be 2 p.Topic.length++p.Topic)))).length=2 + p.Topic.length:=by
    show (binN p.Topic).length=_
    rw [xv4]
   by_cases hq:p.QoS > 0
   ·rw [if_pos (by simpa using hq),t2 _ (by omega),if_pos hq]
    simp only [Option.bind_some]
    have nb2:(L (some (L (some (L (none:Option (List UInt8))++(be 2 p.Topic.length++p.Topic)))++be 2 p.Id.toNat))).length=(2 + p.Topic.length) + 2:=by
     show (L (some (L (none:Option (List UInt8))++(be 2 p.Topic.length++p.Topic)))++be 2 p.Id.toNat).length=_
     rw [List.length_append,xv9,nb]
    obtain ⟨x,g1,g2⟩:=xv13 v (some (L (some (L (none:Option (List UInt8))++(be 2 p.Topic.length++p.Topic)))++be 2 p.Id.toNat)) p.Props hp (by omega)
    have n3:=lenA g2
    rw [g1]
    simp only [Option.bind_some]
    obtain ⟨y,y1,y2⟩:=xv87 x (some p.Load) (by show _ + p.Load.length ≤ _;omega)
    exact ⟨y,by rw [y1];rfl,by rw [y2,g2];simp [L,binN]⟩
   ·rw [if_neg (by simpa using hq),if_neg hq]
    obtain ⟨x,g1,g2⟩:=xv13 v (some (L (none:Option (List UInt8))++(be 2 p.Topic.length++p.Topic))) p.Props hp (by omega)
    have n3:=lenA g2
    rw [g1]
    simp only [Option.bind_some]
    obtain ⟨y,y1,y2⟩:=xv87 x (some p.Load) (by show _ + p.Load.length ≤ _;omega)
    exact ⟨y,by rw [y1];rfl,by rw [y2,g2];simp [L,binN]⟩
  obtain ⟨x,g1,g2⟩:=hpub
  refine ⟨x,g1,?_⟩
  rw [g2];simp only [behN];rw [if_neg (show ¬ p.Kind=1 by omega),if_neg (show ¬ p.Kind=2 by omega),if_pos k]
 ·refine ⟨cx,?_,?_⟩
  ·simp only [fn108,fn108_c1,rNum1,t2n,c1',Option.bind_some]
   rcases k with k|k|k|k<;>simp [k]
  ·rw [c2];simp only [behN]
   rw [if_neg (by omega),if_neg (by omega),if_neg (by omega),if_pos k];simp [L]
 ·refine ⟨fx,?_,?_⟩
  ·simp only [fn108,fn108_c1,fn108_c2,rNum1,rsec1,t2n,c1',s1,f1,Option.bind_some]
   rcases k with k|k<;>simp [k]
  ·rw [f2,s2];simp only [behN]
   rw [if_neg (by omega),if_neg (by omega),if_neg (by omega),if_neg (by omega),if_pos k];simp [L]
 ·refine ⟨ax,?_,?_⟩
  ·simp only [fn108,fn108_c1,fn108_c2,fn108_c4,rNum1,rsec1,t2n,c1',s1,f1,a1,Option.bind_some]
   rcases k with k|k<;>simp [k]
  ·rw [a2,s2];simp only [behN]
   rw [if_neg (by omega),if_neg (by omega),if_neg (by omega),if_neg (by omega),if_neg (by omega),if_pos k];simp [L]
 ·refine ⟨dx,?_,?_⟩
  ·simp only [fn108,fn108_c1,fn108_c2,fn108_c4,fn108_c5,rNum1,rsec1,t2n,c1',d1',s1,f1,a1,Option.bind_some]
   rcases k with k|k<;>simp [k]
  ·rw [d2];simp only [behN]
   rw [if_neg (by omega),if_neg (by omega),if_neg (by omega),if_neg (by omega),if_neg (by omega),if_neg (by omega),if_pos k];simp [L]
 ·refine ⟨none,?_,?_⟩
  ·simp only [fn108,fn108_c1,fn108_c2,fn108_c4,fn108_c5,rNum1,rsec1,t2n,c1',d1',s1,f1,a1,Option.bind_some]
   rcases k with k|k<;>simp [k]
  ·simp only [behN]
   rw [if_neg (by omega),if_neg (by omega),if_neg (by omega),if_neg (by omega),if_neg (by omega),if_neg (by omega),if_neg (by omega)];simp [L]
theorem xv182 (v:Int) {l:List fn163} (h:Lay l):((secV v l).length:Int)=sectI v l:=by
 simp only [secV,sectI,sizeI,h.ok,if_true]
 split<;>rfl
theorem xv197 (v:Int) (p:fn113) (h:Lay (L p.Props)):((codeN v p).length:Int)=codeI v p:=by
 simp only [codeN,codeI,sizeI,h.ok,if_true,List.length_eq_zero_iff]
 split
 ·rfl
 ·split
  ·rfl
  ·simp;omega
theorem xv150 (k:Int):∀ l:List fn112,((filN k l).length:Int)=xv26 k l
 | []=>rfl
 | f::l=>by
  have ih:=xv150 k l
  have e1:filN k (f::l)=(binN f.Text++if k=8 then [f.Opt] else [])++filN k l:=rfl
  have e2:xv26 k (f::l)=(binI f.Text + if k=8 then 1 else 0) + xv26 k l:=by simp [xv26]
  have hb:=xv4 f.Text
  rw [e1,e2,← ih,List.length_append,List.length_append,hb]
  simp only [binI]
  split<;>simp<;>omega
theorem xv103 (v:Int) (p:fn113) (h:Txt p):((behN v p).length:Int)=restI v p:=by
 have s1:=xv182 v h.pp
 have s2:=xv182 v h.wp
 have s3:=xv197 v p h.pp
 have s4:=xv150 p.Kind (L p.Filters)
 have b1:=xv4 p.Client;have b2:=xv4 p.WillTopic;have b3:=xv4 p.WillLoad;have b4:=xv4 p.User;have b5:=xv4 p.Pass;have b6:=xv4 p.Topic
 have b7:(binN [77,81,84,84]).length=6:=by rw [xv4];rfl
 simp only [behN,restI]
 split
 ·simp only [conB,List.length_append,b7,xv9,b1,binI]
  cases p.HasWill<;>cases p.HasUser<;>cases p.HasPass<;>simp [b1,b2,b3,b4,b5]<;>omega
 split
 ·simp only [List.length_append];simp;omega
 split
 ·simp only [List.length_append,b6,binI]
  split<;>simp [xv9]<;>omega
 split
 ·simp only [List.length_append,xv9];omega
 split
 ·simp only [List.length_append,xv9];omega
 split
 ·simp only [List.length_append,xv9];omega
 split
 ·exact s3
 ·rfl
def flagN (p:fn113):UInt8:=if p.Kind=3 then (fl p.Retain 1 ||| (2 * p.QoS)) ||| fl p.Dup 8 else if p.Kind=6∨p.Kind=8∨p.Kind=10 then 2 else 0
theorem xv257 (q:fn60):fn70 q=some (flagN (nP q)):=by
 have e:flagN (nP q)=if q.Kind=3 then (fl q.Retain 1 ||| (2 * q.QoS)) ||| fl q.Dup 8 else if q.Kind=6∨q.Kind=8∨q.Kind=10 then 2 else 0:=rfl
 rw [e]
 simp only [fn70,xv277,Option.bind_some,decide_eq_true_eq]
 by_cases h3:q.Kind=3
 ·simp [h3]
 ·by_cases h6:q.Kind=6
  ·simp [h6]
  ·by_cases h8:q.Kind=8
   ·simp [h8]
   ·by_cases h10:q.Kind=10
    ·simp [h10]
    ·simp [h3,h6,h8,h10]
theorem xv224 {q:UInt8} (hq:¬ q > 2):q=0∨q=1∨q=2:=by
 have h:q.toNat ≤ 2:=by
  have:¬ (2:UInt8).toNat < q.toNat:=hq
  have e2:(2:UInt8).toNat=2:=rfl
  omega
 have h3:q.toNat=0∨q.toNat=1∨q.toNat=2:=by omega
 rcases h3 with h3|h3|h3
 ·exact .inl (UInt8.toNat_inj.1 h3)
 ·exact .inr (.inl (UInt8.toNat_inj.1 h3))
 ·exact .inr (.inr (UInt8.toNat_inj.1 h3))
theorem f3_eq (a d:Bool) (q:UInt8) (hq:¬ q > 2):w64 ((w64 ((if a then (1:Int) else 0) + (w64 (2 * (w64 (q.toNat:Int)))))) + (if d then (8:Int) else 0))=(((fl a 1 ||| (2 * q)) ||| fl d 8).toNat:Int):=by
 rcases xv224 hq with rfl|rfl|rfl<;>cases a<;>cases d<;>decide +kernel
theorem xv210 (p:fn113) (hq:p.Kind=3->¬ p.QoS > 2):fn139 p=some ((flagN p).toNat:Int):=by
 simp only [fn139,xv233,Option.bind_some,decide_eq_true_eq,flagN]
 by_cases h3:p.Kind=3
 ·rw [if_pos h3,if_pos h3,f3_eq _ _ _ (hq h3)]
 ·rw [if_neg h3,if_neg h3]
  by_cases h6:p.Kind=6
  ·simp [h6]
  ·by_cases h8:p.Kind=8
   ·simp [h8]
   ·by_cases h10:p.Kind=10
    ·simp [h10]
    ·simp [h6,h8,h10]
theorem xv254 (p:fn113) (hk:1 ≤ p.Kind∧p.Kind ≤ 15) (hq:p.Kind=3->¬ p.QoS > 2):u8 (w64 ((w64 (16 * p.Kind)) + ((flagN p).toNat:Int)))=(yv714 (u8 p.Kind) ((4:UInt64).toNat:Int)) ||| flagN p:=by
 by_cases h3:p.Kind=3
 ·simp only [flagN,h3,if_true]
  rcases xv224 (hq h3) with h|h|h<;>rw [h]<;>cases p.Retain<;>cases p.Dup<;>decide +kernel
 ·have hf:flagN p=2∨flagN p=0:=by
   simp only [flagN,if_neg h3]
   split<;>simp
  have hk2:p.Kind=1∨p.Kind=2∨p.Kind=4∨p.Kind=5∨p.Kind=6∨p.Kind=7∨p.Kind=8∨p.Kind=9∨p.Kind=10∨p.Kind=11∨p.Kind=12∨p.Kind=13∨p.Kind=14∨p.Kind=15:=by omega
  rcases hk2 with h|h|h|h|h|h|h|h|h|h|h|h|h|h<;>rw [h]<;>rcases hf with f|f<;>rw [f]<;>decide +kernel
end Go.Rv
namespace Go.Rv
theorem xv268 {k:Int}:∀ (l:List fn163) (p:Option fn163),chkL k p l=true->l.all okB=true
 | [],_,_=>rfl
 | b::l,p,h=>by
  simp only [chkL,chk1,xv36,Bool.and_eq_true] at h
  rw [List.all_cons,xv268 l _ h.2,Bool.and_true]
  exact h.1.1.1.1
structure Facts (p:fn113):Prop where
 tx:Txt p
 k:1 ≤ p.Kind∧p.Kind ≤ 15
 wq:p.Kind=1->¬ p.WillQoS > 2
 qs:p.Kind=3->¬ p.QoS > 2
theorem xv67 {v:Int} {q:fn60} (h:MidQ q) (hr:xv8 v (nP q)=true):Facts (nP q):=by
 have h1:=h.wp;have h2:=h.pp;have h3:=h.fl;have h4:=h.cd
 have m:=h.toMidP
 have l1:=h.cl;have l2:=h.tp;have l3:=h.wo;have l4:=h.us;have l5:=h.ld
 simp only [xv8,Bool.and_eq_true] at hr
 obtain ⟨⟨⟨⟨⟨⟨a1,a2⟩,a3⟩,_⟩,a5⟩,a6⟩,a7⟩:=hr
 simp only [verB,Bool.and_eq_true,decide_eq_true_eq] at a1
 have a2:=of_decide_eq_true a2
 simp only [xv11,Bool.and_eq_true,decide_eq_true_eq] at a3
 simp only [xv5,Bool.and_eq_true] at a5 a6
 have e1:L (nP q).Props=(L q.Props).map pR:=rfl
 have e2:L (nP q).WillProps=(L q.WillProps).map pR:=rfl
 have e3:L (nP q).Filters=(L q.Filters).map fR:=rfl
 have e4:L (nP q).Codes=L q.Codes:=rfl
 refine ⟨⟨?_,?_,a3.1.2,?_,a3.2,?_,?_,?_,?_,?_,⟨?_,?_,xv268 _ _ a5.1.2⟩,⟨?_,?_,xv268 _ _ a6.1.2⟩⟩,⟨a1.1.1.2,a1.1.2⟩,?_,?_⟩
 ·show q.Client.length ≤ 65535;omega
 ·show q.WillTopic.length ≤ 65535;omega
 ·show q.User.length ≤ 65535;omega
 ·show q.Topic.length ≤ 65535;omega
 ·show q.Load.length ≤ 1000000;omega
 ·rw [e4];omega
 ·rw [e3,List.length_map];omega
 ·intro f hf
  rw [e3] at hf
  obtain ⟨g,hg,rfl⟩:=List.mem_map.1 hf
  exact m.ft g hg
 ·rw [e1,List.length_map];omega
 ·rw [e1];exact m.ptm
 ·rw [e2,List.length_map];omega
 ·rw [e2];exact m.wtm
 ·intro k
  cases hw:(nP q).HasWill with
  | true =>
   simp only [ownN,conN,k,if_true,hw,Bool.true_and,Bool.and_eq_true,Bool.not_eq_true',Bool.or_eq_false_iff,decide_eq_false_iff_not] at a7
   exact a7.1.1
  | false =>
   have:=congrArg fn113.WillQoS a2
   simp only [bareN,k,if_true,hw] at this
   rw [if_neg (by decide)] at this
   rw [this];decide
 ·intro k
  have a7:pubN v (nP q)=true:=by
   simp only [ownN,k] at a7
   simpa using a7
  simp only [pubN,Bool.and_eq_true,Bool.not_eq_true',decide_eq_false_iff_not] at a7
  exact a7.1.1.1
def packN (v:Int) (p:fn113):List UInt8:=((yv714 (u8 p.Kind) ((4:UInt64).toNat:Int)) ||| flagN p)::(vb (behN v p).length++behN v p)
theorem xv232 (v:Int) (q:fn60) (h:MidQ q) (f:Facts (nP q)):(behN v (nP q)).length ≤ 268435455:=by
 have:=(xv64 v q h).2.1
 have:=xv103 v (nP q) f.tx
 omega
theorem xv292 (v:Int) (q:fn60) (h:MidQ q) (hr:xv8 v (nP q)=true):∃ x,fn56 v q=some (x,0)∧L x=packN v (nP q):=by
 have f:=xv67 h hr
 obtain ⟨r1,r2,r3⟩:=xv64 v q h
 have hi:=xv103 v (nP q) f.tx
 have hle:=xv232 v q h f
 have hu:(u32 ((behN v (nP q)).length:Int)).toNat=(behN v (nP q)).length:=by rw [u32_toNat'];omega
 have hv:=xv61 4 (behN v (nP q)).length (by have:(128:Nat) ^ 4=268435456:=(by decide);omega)
 simp only [fn56]
 rw [xv174 v q h,hr]
 simp only [Option.bind_some]
 rw [if_neg (by simp),show fn70 (⟨q.Kind,q.Dup,q.Retain,q.QoS,q.Id,q.Clean,q.Keep,q.Client,q.HasWill,q.HasUser,q.HasPass,q.WillQoS,q.WillRetain,q.WillProps,q.WillTopic,q.WillLoad,q.User,q.Pass,q.Present,q.Code,q.Topic,q.Load,q.Filters,q.Codes,q.Props⟩:fn60)=some (flagN (nP q)) from xv257 q]
 simp only [Option.bind_some]
 rw [r1]
 simp only [Option.bind_some]
 rw [← hi,xv128 _ _ (by simp [L]),hu,if_neg (by omega)]
 simp only [Option.bind_some]
 obtain ⟨x,g1,g2⟩:=xv290 v (some (L (some [(yv714 (u8 q.Kind) ((4:UInt64).toNat:Int)) ||| flagN (nP q)])++vb (behN v (nP q)).length)) q f.tx f.k (by simp [L];omega)
 rw [show fn55 v (some (L (some [(yv714 (u8 q.Kind) ((4:UInt64).toNat:Int)) ||| flagN (nP q)])++vb (behN v (nP q)).length)) (⟨q.Kind,q.Dup,q.Retain,q.QoS,q.Id,q.Clean,q.Keep,q.Client,q.HasWill,q.HasUser,q.HasPass,q.WillQoS,q.WillRetain,q.WillProps,q.WillTopic,q.WillLoad,q.User,q.Pass,q.Present,q.Code,q.Topic,q.Load,q.Filters,q.Codes,q.Props⟩:fn60)=some x from g1]
 refine ⟨x,rfl,?_⟩
 rw [g2]
 simp only [packN,L,Option.getD_some,List.cons_append,List.nil_append,List.append_assoc]
 rfl
theorem size_eq (v:Int) (q:fn60) (h:MidQ q):fn87 v q=some (if xv8 v (nP q) then ((packN v (nP q)).length:Int) else 0):=by
 simp only [fn87]
 rw [xv174 v q h]
 simp only [Option.bind_some]
 cases hr:xv8 v (nP q) with
 | false=>rfl
 | true =>
  have f:=xv67 h hr
  obtain ⟨r1,r2,r3⟩:=xv64 v q h
  have hi:=xv103 v (nP q) f.tx
  have hle:=xv232 v q h f
  have hu:(u32 ((behN v (nP q)).length:Int)).toNat=(behN v (nP q)).length:=by rw [u32_toNat'];omega
  have hv:=xv61 4 (behN v (nP q)).length (by have:(128:Nat) ^ 4=268435456:=(by decide);omega)
  rw [if_neg (by simp),r1]
  simp only [Option.bind_some,fn71]
  rw [← hi,xv128 _ _ (by simp [L]),hu,if_neg (by omega)]
  simp only [Option.bind_some]
  have n0:L (some (L (none:Option (List UInt8))++vb (behN v (nP q)).length))=vb (behN v (nP q)).length:=by simp [L]
  rw [n0,xv0 (x:=1 + ((vb (behN v (nP q)).length).length:Int)) (by omega) (by omega),xv0 (by omega) (by omega),if_pos trivial]
  simp only [packN,List.length_cons,List.length_append]
  congr 1
  omega
theorem xv313 (v:Int) (p:fn113) (h:MidR p) (hr:xv8 v (nR p)=true):∃ x,fn109 v p=some (x,0)∧L x=packN v (nR p):=by
 have f0:=xv67 h.toQ (v:=v) (by rw [xv59];exact hr)
 rw [xv59] at f0
 have hle:(behN v (nR p)).length ≤ 268435455:=by
  have:=xv232 v (toP p) h.toQ (by rw [xv59];exact f0)
  rw [xv59] at this;exact this
 have tx:Txt p:=⟨f0.tx.cl,f0.tx.wt,f0.tx.wl,f0.tx.us,f0.tx.ps,f0.tx.tp,f0.tx.ld,f0.tx.cs,f0.tx.fl,f0.tx.ft,f0.tx.pp,f0.tx.wp⟩
 have eb:behN v (nR p)=behN v p:=rfl
 rw [eb] at hle
 obtain ⟨x,g1,g2⟩:=xv225 v p tx f0.k f0.wq
 have hu:(u32 ((behN v p).length:Int)).toNat=(behN v p).length:=by rw [u32_toNat'];omega
 have hv:=xv61 4 (behN v p).length (by have:(128:Nat) ^ 4=268435456:=(by decide);omega)
 simp only [fn109]
 rw [xv175 v p h,hr]
 simp only [Option.bind_some]
 rw [if_neg (by simp),g1]
 simp only [Option.bind_some]
 rw [show fn139 (⟨p.Kind,p.Dup,p.Retain,p.QoS,p.Id,p.Clean,p.Keep,p.Client,p.HasWill,p.HasUser,p.HasPass,p.WillQoS,p.WillRetain,p.WillProps,p.WillTopic,p.WillLoad,p.User,p.Pass,p.Present,p.Code,p.Topic,p.Load,p.Filters,p.Codes,p.Props⟩:fn113)=some ((flagN p).toNat:Int) from xv210 p f0.qs]
 simp only [Option.bind_some]
 rw [xv254 p f0.k f0.qs,g2,xv168 _ _ (by simp [L]),hu,if_neg (by omega)]
 simp only [Option.bind_some]
 have lh:lim=140737488300000:=rfl
 obtain ⟨y,y1,y2⟩:=xv87 (some (L (some [(yv714 (u8 p.Kind) ((4:UInt64).toNat:Int)) ||| flagN p])++vb (behN v p).length)) x (by rw [g2,lh];simp [L];omega)
 rw [y1]
 refine ⟨y,rfl,?_⟩
 rw [y2,g2]
 simp only [packN,L,Option.getD_some,List.cons_append,List.nil_append,List.append_assoc]
 rfl
def tD:fn60:=⟨3,false,false,1,7,false,0,[],false,false,false,0,false,none,[],[],[],[],false,0,[97],[120],none,none,none⟩
theorem tD_q:MidQ tD:=by
 refine ⟨⟨⟨?_,?_,?_,?_⟩,?_,?_,?_,?_,?_,?_,?_⟩,?_,?_,?_⟩<;>simp [tD,L]
theorem tD_r:xv8 4 (nP tD)=true:=by kernel_rfl
theorem tD_b:behN 4 (nP tD)=[0,1,97,0,7,120]:=by kernel_rfl
theorem tD_p:packN 4 (nP tD)=[50,6,0,1,97,0,7,120]:=by
 simp only [packN,tD_b]
 rw [vb_lt (by decide)]
 kernel_rfl
theorem xv153:fn159=some true:=by
 obtain ⟨x,g1,g2⟩:=xv292 4 tD tD_q tD_r
 rw [tD_p] at g2
 simp only [fn159]
 rw [show fn56 4 (⟨3,false,false,(1:UInt8),(7:UInt16),false,(0:UInt16),[],false,false,false,(0:UInt8),false,none,[],[],[],[],false,(0:UInt8),[97],[120],none,none,none⟩:fn60)=some (x,0) from g1]
 simp only [Option.bind_some]
 rw [if_pos (by decide),if_pos (by simp [g2])]
 rw [show fn87 4 (⟨3,false,false,(1:UInt8),(7:UInt16),false,(0:UInt16),[],false,false,false,(0:UInt8),false,none,[],[],[],[],false,(0:UInt8),[97],[120],none,none,none⟩:fn60)=some 8 from (size_eq 4 tD tD_q).trans (by rw [tD_r,tD_p];rfl)]
 simp only [Option.bind_some]
 rw [if_pos (by decide)]
 rw [show fn70 (⟨3,false,false,(1:UInt8),(7:UInt16),false,(0:UInt16),[],false,false,false,(0:UInt8),false,none,[],[],[],[],false,(0:UInt8),[97],[120],none,none,none⟩:fn60)=some 2 from by kernel_rfl]
 simp only [Option.bind_some]
 rw [if_pos (by decide)]
 rw [show fn79 4 (⟨3,false,false,(1:UInt8),(7:UInt16),false,(0:UInt16),[],false,false,false,(0:UInt8),false,none,[],[],[],[],false,(0:UInt8),[97],[120],none,none,none⟩:fn60)=some 6 from (xv64 4 tD tD_q).1.trans (by kernel_rfl)]
 rfl
end Go.Rv
namespace Go.Rv
theorem xv253 (z:Int) (p:fn113):fn34 z p=some true:=by
 simp only [fn34]
 have hv:=xv343 z
 generalize w64 (4 + w64 ((u64 z % (2:UInt64)).toNat:Int))=v at hv ⊢
 obtain ⟨q,h1,h2,h3⟩:=xv200 hv p
 have hm:=h2.mid
 have hq:=hm.toQ
 have hto:=toEq q h2
 obtain ⟨x,g1,g2⟩:=xv292 v (toP q) hq (by rw [xv59];exact h3)
 rw [xv59] at g2
 obtain ⟨y,g3,g4⟩:=xv313 v q hm h3
 have sz:=size_eq v (toP q) hq
 rw [xv59,h3,if_pos rfl] at sz
 have f0:=xv67 hq (v:=v) (by rw [xv59];exact h3)
 rw [xv59] at f0
 have tx:Txt q:=⟨f0.tx.cl,f0.tx.wt,f0.tx.wl,f0.tx.us,f0.tx.ps,f0.tx.tp,f0.tx.ld,f0.tx.cs,f0.tx.fl,f0.tx.ft,f0.tx.pp,f0.tx.wp⟩
 obtain ⟨b,b1,b2⟩:=xv225 v q tx f0.k f0.wq
 obtain ⟨r1,_,_⟩:=xv64 v (toP q) hq
 rw [xv59] at r1
 have hi:=xv103 v (nR q) f0.tx
 have eb:behN v (nR q)=behN v q:=rfl
 rw [eb] at hi
 rw [show chk (decide ((2:UInt64) ≠ 0))=some () from rfl,Option.bind_some]
 show (fn183 v p).bind _=_
 rw [h1,Option.bind_some]
 show (l07_To q).bind _=_
 rw [hto,Option.bind_some]
 show (fn56 v (toP q)).bind _=_
 rw [g1,Option.bind_some]
 show (fn109 v q).bind _=_
 rw [g3,Option.bind_some]
 simp only
 rw [xv153,Option.bind_some,if_pos rfl,if_pos (by decide),if_pos (by simp [g2,g4])]
 show (fn87 v (toP q)).bind _=_
 rw [sz,Option.bind_some,if_pos (by simp [g2])]
 show (fn79 v (toP q)).bind _=_
 rw [r1,Option.bind_some]
 show (fn108 v q).bind _=_
 rw [b1,Option.bind_some]
 simp [b2,hi]
end Go.Rv
namespace Go.Rv
theorem xv164 (x:tyL Tb [.g (.f (.a (.n .i64))),.g (.st 3)]) (hx:yv669 tab 4 [.g (.f (.a (.n .i64))),.g (.st 3)] x):fn34 x.1 (⟨x.2.1.Kind,x.2.1.Dup,x.2.1.Retain,x.2.1.QoS,x.2.1.Id,x.2.1.Clean,x.2.1.Keep,x.2.1.Client,x.2.1.HasWill,x.2.1.HasUser,x.2.1.HasPass,x.2.1.WillQoS,x.2.1.WillRetain,x.2.1.WillProps,x.2.1.WillTopic,x.2.1.WillLoad,x.2.1.User,x.2.1.Pass,x.2.1.Present,x.2.1.Code,x.2.1.Topic,x.2.1.Load,x.2.1.Filters,x.2.1.Codes,x.2.1.Props⟩:fn113)=some true :=
 xv253 x.1 x.2.1
end Go.Rv
