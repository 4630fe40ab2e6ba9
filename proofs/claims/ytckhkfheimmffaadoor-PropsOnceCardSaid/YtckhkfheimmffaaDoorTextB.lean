/- Plain laws. -/
import Derived.Test.YtckhkfheimmffaaDoorTextA
set_option linter.unusedSimpArgs false
set_option linter.unusedVariables false
set_option maxRecDepth 100000
namespace Go.Rv
open Go.Lib
def idsL:List UInt8:=[1,2,3,8,9,11,17,18,19,21,22,23,24,25,26,28,31,33,34,35,36,37,38,39,40,41,42]
theorem xv124 (k:Int):∀ (f i:Nat) (o:Option (List UInt8)),idsL.length - i ≤ f->i ≤ idsL.length->(L o).length ≤ i ->
 ∃ o',iter (fn118_l0 k (some idsL)) (o,(i:Int))=some o'∧L o'=L o++(idsL.drop i).filter (fun x=>forB x k):=by
 intro f
 induction f with
 | zero =>
  intro i o h1 h2 h3
  refine ⟨o,?_,?_⟩
  ·rw [yv757]
   simp only [fn118_l0,fn118_b0,xv50]
   rw [if_neg (by rw [decide_eq_true_eq];omega)]
  ·rw [show idsL.drop i=[] from List.drop_eq_nil_of_le (by omega)];simp
 | succ f ih =>
  intro i o h1 h2 h3
  by_cases hlt:i < idsL.length
  ·have hl:idsL.length=27:=rfl
   have e:w64 ((i:Int) + 1)=((i + 1:Nat):Int):=by rw [xv2 (by omega) (by omega)];simp
   cases hb:forB idsL[i] k with
   | true =>
    have happ:appO 1 o (some [idsL[i]])=some (some (L o++[idsL[i]])):=by
     have:=xv21 (n:=1) (x:=o) (a:=idsL[i]) (l:=[]) (by simp [room];omega) (by simp [room];omega)
     simpa using this
    obtain ⟨o',h4,h5⟩:=ih (i + 1) (some (L o++[idsL[i]])) (by omega) hlt (by simp;omega)
    refine ⟨o',?_,?_⟩
    ·rw [yv757]
     simp only [fn118_l0,fn118_b0,xv50,xv0,List.getElem?_eq_getElem hlt,Option.bind_some,xv105,hb,if_true,happ,e]
     rw [if_pos (by rw [decide_eq_true_eq];omega)]
     exact h4
    ·rw [h5,xv50,List.drop_eq_getElem_cons hlt,List.filter_cons,if_pos hb];simp
   | false =>
    obtain ⟨o',h4,h5⟩:=ih (i + 1) o (by omega) hlt (by omega)
    refine ⟨o',?_,?_⟩
    ·rw [yv757]
     simp only [fn118_l0,fn118_b0,xv50,xv0,List.getElem?_eq_getElem hlt,Option.bind_some,xv105,hb,Bool.false_eq_true,if_false,e]
     rw [if_pos (by rw [decide_eq_true_eq];omega)]
     exact h4
    ·rw [h5,List.drop_eq_getElem_cons hlt,List.filter_cons,if_neg (by simp [hb])]
  ·refine ⟨o,?_,?_⟩
   ·rw [yv757]
    simp only [fn118_l0,fn118_b0,xv50]
    rw [if_neg (by rw [decide_eq_true_eq];omega)]
   ·rw [show idsL.drop i=[] from List.drop_eq_nil_of_le (by omega)];simp
def idsOf (k:Int):List UInt8:=idsL.filter (fun x=>forB x k)
theorem xv167:∀ k:Fin 16,(decide (idsOf ((k.val:Int) + 1)=[]))=(decide (k.val=11) || decide (k.val=12)):=by decide +kernel
theorem xv168:∀ x ∈ idsL,x ≠ 0∧1 ≤ typeT x∧typeT x ≤ 7∧(x=11->typeT x=4)∧(x=33->typeT x=2)∧(x=35->typeT x=2)∧(x=39->typeT x=3)∧(x=8->typeT x=5):=by decide +kernel
theorem xv32 {id:UInt8} {n:UInt32} {a b:List UInt8} (hr:xv8 id n a b=true) (h1:typeT id=1->n < 2) (h2:(id=11∨id=33∨id=35∨id=39)->n ≠ 0) (h3:id=8->nameB a=true):xv25 id n a b=true:=by
 rw [xv25,hr,Bool.true_and,valB]
 split
 ·rename_i h;exact decide_eq_true (h1 h)
 ·split
  ·rename_i h
   simp only [Bool.or_eq_true,decide_eq_true_eq] at h
   have:n ≠ 0:=h2 (by rcases h with ((h|h)|h)|h<;>simp [h])
   simp [this]
  ·split
   ·rename_i h;exact h3 h
   ·rfl
theorem xv222 (p:fn104) (k:Nat) (h1:1 ≤ k) (h16:k ≤ 16) :
 ∃ q,fn118 p (k:Int)=some q∧(decide (q.Id=0)=(decide (k=12) || decide (k=13)))∧(q.Id ≠ 0->forB q.Id k=true∧xv25 q.Id q.N q.A q.B=true∧q.A.length ≤ 100∧q.B.length ≤ 100):=by
 obtain ⟨o,ho,hL⟩:=xv124 (k:Int) 27 0 none (by decide) (by decide) (by decide)
 rw [show ((0:Nat):Int)=0 from rfl] at ho
 have hL:L o=idsOf k:=by rw [hL];rfl
 have hnone:=xv167 ⟨k - 1,by omega⟩
 rw [show (((k - 1:Nat):Int) + 1)=(k:Int) by omega] at hnone
 have hk:(decide (k - 1=11) || decide (k - 1=12))=(decide (k=12) || decide (k=13)):=by
  rw [show decide (k - 1=11)=decide (k=12) from decide_eq_decide.2 (by omega),show decide (k - 1=12)=decide (k=13) from decide_eq_decide.2 (by omega)]
 rw [hk] at hnone
 have ho':iter (fn118_l0 (k:Int) (some [(1:UInt8),(2:UInt8),(3:UInt8),(8:UInt8),(9:UInt8),(11:UInt8),(17:UInt8),(18:UInt8),(19:UInt8),(21:UInt8),(22:UInt8),(23:UInt8),(24:UInt8),(25:UInt8),(26:UInt8),(28:UInt8),(31:UInt8),(33:UInt8),(34:UInt8),(35:UInt8),(36:UInt8),(37:UInt8),(38:UInt8),(39:UInt8),(40:UInt8),(41:UInt8),(42:UInt8)])) (none,0)=some o:=ho
 simp only [fn118,fn115,Option.bind_some]
 rw [ho',Option.bind_some,hL]
 by_cases he:idsOf (k:Int)=[]
 ·rw [he] at hnone ⊢
  refine ⟨⟨0,0,[],[]⟩,by rw [if_pos (by decide)],?_,fun h=>absurd rfl h⟩
  rw [← hnone];decide
 ·have hlen:(idsOf (k:Int)).length ≠ 0:=fun e=>he (List.length_eq_zero_iff.1 e)
  have hlen2:(idsOf (k:Int)).length ≤ 27:=List.length_filter_le _ _
  have hm:p.Id.toNat % (idsOf (k:Int)).length < (idsOf (k:Int)).length:=Nat.mod_lt _ (by omega)
  have hc:=p.Id.toNat_lt
  rw [if_neg (by rw [decide_eq_true_eq];omega),chk_d (by omega),Option.bind_some,show w64 (p.Id.toNat:Int)=(p.Id.toNat:Int) from xv2 (by omega) (by omega),
   show ((p.Id.toNat:Int)).tmod ((idsOf (k:Int)).length:Int)=((p.Id.toNat % (idsOf (k:Int)).length:Nat):Int) by rw [Int.tmod_eq_emod_of_nonneg (by omega)];simp,xv0,List.getElem?_eq_getElem hm,Option.bind_some]
  have hmem:=List.getElem_mem hm
  generalize (idsOf (k:Int))[p.Id.toNat % (idsOf (k:Int)).length]=x at hmem ⊢
  simp only [idsOf,List.mem_filter] at hmem
  obtain ⟨hx,hfor⟩:=hmem
  obtain ⟨x0,t1,t7,i11,i33,i35,i39,i8⟩:=xv168 x hx
  have hz:decide (x=0)=(decide (k=12) || decide (k=13)):=by
   rw [← hnone,decide_eq_false x0,decide_eq_false he]
  rw [xv56,Option.bind_some]
  have hd2:chk (decide ((2:UInt32) ≠ 0))=some ():=by decide
  have hd3:chk (decide ((65535:UInt32) ≠ 0))=some ():=by decide
  have hd4:chk (decide ((268435455:UInt32) ≠ 0))=some ():=by decide
  have hex1:typeT x=1->¬ (x=11∨x=33∨x=35∨x=39):=by
   rintro c (h|h|h|h)
   ·rw [i11 h] at c;omega
   ·rw [i33 h] at c;omega
   ·rw [i35 h] at c;omega
   ·rw [i39 h] at c;omega
  by_cases c1:typeT x=1
  ·rw [if_pos (decide_eq_true c1),hd2,Option.bind_some]
   refine ⟨_,rfl,hz,fun _=>⟨hfor,?_,by simp,by simp⟩⟩
   have hm2:p.N % 2 < 2:=by rw [UInt32.lt_iff_toNat_lt,UInt32.toNat_mod];exact Nat.mod_lt _ (by decide)
   refine xv32 ?_ (fun _=>hm2) (fun h=>absurd h (hex1 c1)) (fun h=>by rw [i8 h] at c1;omega)
   rw [xv8,if_pos c1]
   have:p.N % 2 < 256:=by rw [UInt32.lt_iff_toNat_lt] at hm2 ⊢;exact Nat.lt_trans hm2 (by decide)
   simp [this]
  rw [if_neg (by simpa using c1)]
  by_cases c2:typeT x=2
  ·rw [if_pos (decide_eq_true c2),hd3,Option.bind_some]
   refine ⟨_,rfl,hz,fun _=>⟨hfor,?_,by simp,by simp⟩⟩
   have hm2:(1 + p.N % 65535).toNat=1 + p.N.toNat % 65535:=by
    rw [UInt32.toNat_add,UInt32.toNat_mod]
    show (1 + p.N.toNat % 65535) % 4294967296=_
    omega
   refine xv32 ?_ (fun h=>absurd h c1) (fun _ h=>?_) (fun h=>by rw [i8 h] at c2;omega)
   ·rw [xv8,if_neg c1,if_pos c2]
    have:1 + p.N % 65535 < 65536:=by rw [UInt32.lt_iff_toNat_lt,hm2];show _ < 65536;omega
    simp [this]
   ·have:=congrArg UInt32.toNat h
    rw [hm2] at this
    have h0:(0:UInt32).toNat=0:=rfl
    omega
  rw [if_neg (by simpa using c2)]
  by_cases c3:typeT x=3
  ·rw [if_pos (decide_eq_true c3)]
   have hr:∀ n,xv8 x n [] []=true:=fun n=>by rw [xv8,if_neg c1,if_neg c2,if_pos c3];rfl
   by_cases c39:x=39
   ·rw [if_pos (by simpa using c39)]
    by_cases hn:p.N=0
    ·rw [if_pos (by simpa using hn)]
     exact ⟨_,rfl,hz,fun _=>⟨hfor,xv32 (hr _) (fun h=>absurd h c1) (fun _=>(by decide:(7:UInt32) ≠ 0)) (fun h=>by rw [i8 h] at c3;omega),by simp,by simp⟩⟩
    ·rw [if_neg (by simpa using hn)]
     exact ⟨_,rfl,hz,fun _=>⟨hfor,xv32 (hr _) (fun h=>absurd h c1) (fun _ h=>hn h) (fun h=>by rw [i8 h] at c3;omega),by simp,by simp⟩⟩
   ·rw [if_neg (by simpa using c39)]
    refine ⟨_,rfl,hz,fun _=>⟨hfor,xv32 (hr _) (fun h=>absurd h c1) (fun h=>?_) (fun h=>by rw [i8 h] at c3;omega),by simp,by simp⟩⟩
    rcases h with h|h|h|h
    ·rw [i11 h] at c3;omega
    ·rw [i33 h] at c3;omega
    ·rw [i35 h] at c3;omega
    ·exact absurd h c39
  rw [if_neg (by simpa using c3)]
  by_cases c4:typeT x=4
  ·rw [if_pos (decide_eq_true c4),hd4,Option.bind_some]
   refine ⟨_,rfl,hz,fun _=>⟨hfor,?_,by simp,by simp⟩⟩
   have hm2:(1 + p.N % 268435455).toNat=1 + p.N.toNat % 268435455:=by
    rw [UInt32.toNat_add,UInt32.toNat_mod]
    show (1 + p.N.toNat % 268435455) % 4294967296=_
    omega
   refine xv32 ?_ (fun h=>absurd h c1) (fun _ h=>?_) (fun h=>by rw [i8 h] at c4;omega)
   ·rw [xv8,if_neg c1,if_neg c2,if_neg c3,if_pos c4]
    have:1 + p.N % 268435455 < 268435456:=by rw [UInt32.lt_iff_toNat_lt,hm2];show _ < 268435456;omega
    simp [this]
   ·have:=congrArg UInt32.toNat h
    rw [hm2] at this
    have h0:(0:UInt32).toNat=0:=rfl
    omega
  rw [if_neg (by simpa using c4)]
  have hno:(x=11∨x=33∨x=35∨x=39)->(0:UInt32) ≠ 0:=by
   intro h
   exfalso
   rcases h with h|h|h|h
   ·exact c4 (i11 h)
   ·exact c2 (i33 h)
   ·exact c2 (i35 h)
   ·exact c3 (i39 h)
  by_cases c5:typeT x=5
  ·rw [if_pos (decide_eq_true c5)]
   obtain ⟨m,q,m8,hq,hqe⟩:=xv123 p.A
   have hql:=hq.len
   rw [hqe,Option.bind_some]
   have hr:∀ a,good a=true->xv8 x 0 a []=true:=fun a h=>by rw [xv8,if_neg c1,if_neg c2,if_neg c3,if_neg c4,if_pos c5,h];rfl
   by_cases c8:x=8
   ·rw [if_pos (by simpa using c8)]
    obtain ⟨m',q',m8',hq',h0',hqe'⟩:=xv214 p.A
    have hql':=hq'.len
    rw [hqe',Option.bind_some]
    refine ⟨_,rfl,hz,fun _=>⟨hfor,xv32 (hr _ hq'.good) (fun h=>absurd h c1) hno (fun _=>?_),by show q'.length ≤ 100;omega,by simp⟩⟩
    have hw:wild q'=false:=xv172 fun b h=>⟨(hq'.bytes b h).2.1,(hq'.bytes b h).2.2.1⟩
    simp [nameB,h0',hq'.good,hw]
   ·rw [if_neg (by simpa using c8)]
    exact ⟨_,rfl,hz,fun _=>⟨hfor,xv32 (hr _ hq.good) (fun h=>absurd h c1) hno (fun h=>absurd h c8),by show q.length ≤ 100;omega,by simp⟩⟩
  rw [if_neg (by simpa using c5)]
  have h8:x ≠ 8:=fun h=>c5 (i8 h)
  by_cases c6:typeT x=6
  ·rw [if_pos (decide_eq_true c6)]
   have hcs:=xv196 p.A 9 (by omega)
   rw [show ((9:Nat):Int)=9 from rfl] at hcs
   rw [hcs,Option.bind_some]
   exact ⟨_,rfl,hz,fun _=>⟨hfor,xv32 (by rw [xv8,if_neg c1,if_neg c2,if_neg c3,if_neg c4,if_neg c5,if_pos c6];rfl) (fun h=>absurd h c1) hno (fun h=>absurd h h8),by show (p.A.take 9).length ≤ 100;simp;omega,by simp⟩⟩
  rw [if_neg (by simpa using c6)]
  have c7:typeT x=7:=by omega
  rw [if_pos (decide_eq_true c7)]
  obtain ⟨m,q,m8,hq,hqe⟩:=xv123 p.A
  obtain ⟨m',q',m8',hq',hqe'⟩:=xv123 p.B
  have hql:=hq.len
  have hql':=hq'.len
  rw [hqe,Option.bind_some,hqe',Option.bind_some]
  exact ⟨_,rfl,hz,fun _=>⟨hfor,xv32 (by rw [xv8,if_neg c1,if_neg c2,if_neg c3,if_neg c4,if_neg c5,if_neg c6,if_pos c7,hq.good,hq'.good];rfl) (fun h=>absurd h c1) hno (fun h=>absurd h h8),by show q.length ≤ 100;omega,by show q'.length ≤ 100;omega⟩⟩
end Go.Rv
namespace Go.Rv
open Go.Lib
end Go.Rv
namespace Go.Rv
open Go.Lib
def DupP (k:Int) (a b:fn104):Prop:=a.Id=b.Id->xv31 a.Id k=true
theorem DupP.symm {k:Int} {a b:fn104} (h:DupP k a b):DupP k b a:=fun e=>by rw [e];exact h e.symm
structure OneP (k:Int) (p:fn104):Prop where
 f:forB p.Id k=true
 v:xv25 p.Id p.N p.A p.B=true
 a:p.A.length ≤ 100
 b:p.B.length ≤ 100
structure ManyP (k:Int) (l:List fn104):Prop where
 one:∀ p ∈ l,OneP k p
 dup:l.Pairwise (DupP k)
theorem xv43 {l:List fn104} {id:UInt8}:hasId l id=true ↔ ∃ a ∈ l,a.Id=id:=by
 simp only [hasId,List.any_eq_true,decide_eq_true_eq]
theorem ManyP.perm {k:Int} {l m:List fn104} (h:ManyP k l) (p:m.Perm l):ManyP k m :=
 ⟨fun x hx=>h.one x (p.mem_iff.1 hx),(p.pairwise_iff (fun h=>DupP.symm h)).2 h.dup⟩
theorem xv92 {l m:List fn104} (p:m.Perm l) (id:UInt8):hasId m id=hasId l id:=by
 rw [Bool.eq_iff_iff,xv43,xv43]
 exact ⟨fun ⟨a,h,e⟩=>⟨a,p.mem_iff.1 h,e⟩,fun ⟨a,h,e⟩=>⟨a,p.mem_iff.2 h,e⟩⟩
theorem ManyP.snoc {k:Int} {l:List fn104} {q:fn104} (h:ManyP k l) (hq:OneP k q) (hd:hasId l q.Id=true->xv31 q.Id k=true):ManyP k (l++[q]):=by
 refine ⟨fun p hp=>?_,List.pairwise_append.2 ⟨h.dup,List.pairwise_singleton _ _,fun a ha b hb e=>?_⟩⟩
 ·rcases List.mem_append.1 hp with hp|hp
  ·exact h.one p hp
  ·simp at hp;rw [hp];exact hq
 ·simp at hb;subst hb
  rw [e]
  exact hd (xv43.2 ⟨a,ha,e⟩)
theorem xv89 {o:Option (List fn104)} {q:fn104} (h:(L o).length ≤ 100):appO 40 o (some [q])=some (some (L o++[q])):=by
 have:=xv21 (n:=40) (x:=o) (a:=q) (l:=[]) (by simp [room];omega) (by simp [room];omega)
 simpa using this
theorem xv199 (o:Option (List fn104)) (k:Nat) (h1:1 ≤ k) (h16:k ≤ 16):∀ (f i:Nat) (x:Option (List fn104)),f + i=8->(L x).length ≤ i->ManyP (k:Int) (L x) ->
 (∃ q,iter (fn119_l0 o (k:Int)) (x,(i:Int))=some (.inl q))∨∃ x',iter (fn119_l0 o (k:Int)) (x,(i:Int))=some (.inr x')∧(L x').length ≤ 8∧ManyP (k:Int) (L x'):=by
 intro f
 induction f with
 | zero =>
  intro i x hi hl hm
  refine .inr ⟨x,?_,by omega,hm⟩
  rw [yv757]
  simp only [fn119_l0,fn119_b0]
  by_cases h:i < (L o).length
  ·rw [if_pos (by simp;omega),if_neg (by simp;omega)]
  ·rw [if_neg (by simp;omega)]
 | succ f ih =>
  intro i x hi hl hm
  by_cases h:i < (L o).length
  ·obtain ⟨q,hq,_,hok⟩:=xv222 (L o)[i] k h1 h16
   have e:w64 ((i:Int) + 1)=((i + 1:Nat):Int):=xv10 (by omega)
   have e8:decide ((i:Int) < 8)=true:=by rw [decide_eq_true_eq];omega
   by_cases h0:q.Id=0
   ·refine .inl ⟨q,?_⟩
    rw [yv757]
    simp only [fn119_l0,fn119_b0,xv0,List.getElem?_eq_getElem h,Option.bind_some,hq,e8,if_true]
    rw [if_pos (by simp;omega),if_pos (by simpa using h0)]
   ·obtain ⟨q1,q2,q3,q4⟩:=hok h0
    have hone:OneP (k:Int) q:=⟨q1,q2,q3,q4⟩
    have hg:=xv106 x q.Id (by omega)
    have hg2:=xv126 (L x) q.Id
    rcases hgn:getN (L x) q.Id with ⟨g1,g2⟩
    rw [hgn] at hg hg2
    simp only at hg2
    have step:∀ x',(L x').length ≤ i + 1->ManyP (k:Int) (L x')->fn119_l0 o (k:Int) (x,(i:Int))=some (.inl (x',((i + 1:Nat):Int))) ->
     (∃ q,iter (fn119_l0 o (k:Int)) (x,(i:Int))=some (.inl q))∨∃ x',iter (fn119_l0 o (k:Int)) (x,(i:Int))=some (.inr x')∧(L x').length ≤ 8∧ManyP (k:Int) (L x'):=by
     intro x' hx1 hx2 hx3
     have he:iter (fn119_l0 o (k:Int)) (x,(i:Int))=iter (fn119_l0 o (k:Int)) (x',((i + 1:Nat):Int)):=by rw [yv757,hx3]
     rw [he]
     exact ih (i + 1) x' (by omega) hx1 hx2
    have hstep:fn119_l0 o (k:Int) (x,(i:Int))=(if g2=true then (if (!xv31 q.Id (k:Int))=true then some (.inl (x,((i + 1:Nat):Int))) else some (.inl (some (L x++[q]),((i + 1:Nat):Int)))) else some (.inl (some (L x++[q]),((i + 1:Nat):Int)))):=by
     simp only [fn119_l0,fn119_b0,xv0,List.getElem?_eq_getElem h,Option.bind_some,hq,e8,if_true]
     rw [if_pos (by simp;omega),if_neg (by simpa using h0),hg]
     simp only [Option.bind_some,xv136,xv89 (q:=q) (show (L x).length ≤ 100 by omega),e]
    cases g2 with
    | false =>
     refine step (some (L x++[q])) (by simp;omega) ?_ (by rw [hstep];simp)
     exact hm.snoc hone (fun hh=>by rw [← hg2] at hh;cases hh)
    | true =>
     cases ho:xv31 q.Id (k:Int) with
     | false=>exact step x (by omega) hm (by rw [hstep,ho];simp)
     | true =>
      refine step (some (L x++[q])) (by simp;omega) ?_ (by rw [hstep,ho];simp)
      exact hm.snoc hone (fun _=>ho)
  ·refine .inr ⟨x,?_,by omega,hm⟩
   rw [yv757]
   simp only [fn119_l0,fn119_b0]
   rw [if_neg (by simp;omega)]
theorem xv125:∀ k:Fin 17,forB 22 (k.val:Int)=true->forB 21 (k.val:Int)=true:=by decide +kernel
theorem val21 (a:List UInt8) (h:good a=true):xv25 21 0 a []=true:=by
 have:typeT 21=5:=by decide +kernel
 simp [xv25,xv8,valB,this,h]
theorem xv102 (o:Option (List fn104)) (k:Nat) (h1:1 ≤ k) (h16:k ≤ 16) :
 ∃ r,fn119 o (k:Int)=some r∧(L r).length ≤ 9∧ManyP (k:Int) (L r)∧SrtP (L r)∧(hasId (L r) 21=true∨hasId (L r) 22=false):=by
 have sorted:∀ x:Option (List fn104),(L x).length ≤ 9->ManyP (k:Int) (L x)->(hasId (L x) 21=true∨hasId (L x) 22=false) ->
  ∃ r,fn119_c2 x (fun x=>some x)=some r∧(L r).length ≤ 9∧ManyP (k:Int) (L r)∧SrtP (L r)∧(hasId (L r) 21=true∨hasId (L r) 22=false):=by
  intro x hl hm hh
  obtain ⟨l',s1,s2,s3⟩:=xv182 x (by omega)
  refine ⟨some l',by simp only [fn119_c2,s1,Option.bind_some],?_,hm.perm s3,s2,?_⟩
  ·rw [xv50,s3.length_eq];exact hl
  ·rw [xv50,xv92 s3,xv92 s3];exact hh
 rcases xv199 o k h1 h16 8 0 none rfl (by simp) ⟨by simp,by simp⟩ with ⟨q,hq⟩|⟨x,hx,hl,hm⟩
 ·rw [show ((0:Nat):Int)=0 from rfl] at hq
  refine ⟨none,by simp only [fn119,hq,Option.bind_some],by simp,⟨by simp,by simp⟩,by simp,.inr rfl⟩
 ·rw [show ((0:Nat):Int)=0 from rfl] at hx
  have hg:=xv106 x 22 (by omega)
  have hg2:=xv126 (L x) 22
  rcases hgn:getN (L x) 22 with ⟨a1,a2⟩
  have hf:=xv106 x 21 (by omega)
  have hf2:=xv126 (L x) 21
  rcases hfn:getN (L x) 21 with ⟨b1,b2⟩
  rw [hgn] at hg hg2
  rw [hfn] at hf hf2
  simp only at hg2 hf2
  simp only [fn119,hx,Option.bind_some,hg]
  cases a2 with
  | false =>
   obtain ⟨r,r1,r2⟩:=sorted x (by omega) hm (.inr hg2.symm)
   exact ⟨r,by simpa using r1,r2⟩
  | true =>
   simp only [if_true,hf,Option.bind_some]
   cases b2 with
   | true =>
    obtain ⟨r,r1,r2⟩:=sorted x (by omega) hm (.inl hf2.symm)
    exact ⟨r,by simpa using r1,r2⟩
   | false =>
    obtain ⟨m,w,m8,hw,hwe⟩:=xv123 [109]
    have hwl:=hw.len
    simp only [Bool.not_false,if_true,hwe,Option.bind_some,xv89 (q:=(⟨21,0,w,[]⟩:fn104)) (show (L x).length ≤ 100 by omega)]
    obtain ⟨p,hp,he⟩:=xv43.1 hg2.symm
    have h22:=(hm.one p hp).f
    rw [he] at h22
    have h21:=xv125 ⟨k,by omega⟩ h22
    exact sorted (some (L x++[⟨21,0,w,[]⟩])) (by simp;omega)
     (hm.snoc ⟨h21,val21 w hw.good,by show w.length ≤ 100;omega,by simp⟩ (fun hh=>by rw [show (⟨21,0,w,[]⟩:fn104).Id=21 from rfl,← hf2] at hh;cases hh))
     (.inl (xv43.2 ⟨⟨21,0,w,[]⟩,by simp,rfl⟩))
end Go.Rv
namespace Go.Rv
theorem OneP.ok {k:Int} {p:fn104} (h:OneP k p):okB p=true:=by
 have:=h.v
 simp only [xv25,Bool.and_eq_true] at this
 exact this.1
theorem xv58 {α:Type}:∀ (l:List α) (i:Nat) (y x:α),x ∈ setR l i y->x=y∨x ∈ l
 | [],_,_,_,h=>by simp [setR] at h
 | a::l,0,y,x,h=>by
  simp only [setR,List.mem_cons] at h
  rcases h with h|h
  ·exact .inl h
  ·exact .inr (List.mem_cons_of_mem _ h)
 | a::l,n + 1,y,x,h=>by
  simp only [setR,List.mem_cons] at h
  rcases h with rfl|h
  ·exact .inr List.mem_cons_self
  ·rcases xv58 l n y x h with h|h
   ·exact .inl h
   ·exact .inr (List.mem_cons_of_mem _ h)
theorem xv54 {k:Int} {l:List fn104} (hm:∀ p ∈ l,OneP k p) (hl:l.length ≤ 9) (o:Option (List fn104)) (ho:L o=l) :
 fn76 none (mapO pQ o)=some (some (putN l))∧∃ x,fn62 ⟨putN l,0⟩=some (x,true,⟨[],0⟩)∧SrtOf l ((L x).map pR)∧(L x).length=l.length∧(x=none∨L x ≠ []):=by
 have ht:∀ x ∈ l,x.A.length ≤ 200∧x.B.length ≤ 200:=fun x hx=>⟨by have:=(hm x hx).a;omega,by have:=(hm x hx).b;omega⟩
 have htm:∀ x ∈ L (mapO pQ o),x.A.length ≤ 13000∧x.B.length ≤ 13000:=fun x hx=>by
  rw [xv87,ho] at hx
  obtain ⟨y,hy,rfl⟩:=List.mem_map.1 hx
  have:=ht y hy
  exact ⟨by show y.A.length ≤ 13000;omega,by show y.B.length ≤ 13000;omega⟩
 have hs:=xv152 l ht
 refine ⟨?_,?_⟩
 ·rw [xv70 none _ (by simp [L]) (by rw [xv87,List.length_map,ho];omega) htm,xv87,pR_pQ,ho,if_pos (List.all_eq_true.2 fun q hq=>(hm q hq).ok)]
  simp [L]
 ·obtain ⟨x,g1,g2⟩:=xv71 l [] (by omega) (by simp) (fun p hp=>⟨(hm p hp).ok,by have:=ht p hp;omega,by have:=ht p hp;omega⟩)
  rw [List.append_nil] at g1
  exact ⟨x,g1,g2⟩
theorem xv223 (a:Int):∃ k:Nat,w64 (1 + (w64 (((u64 a) % (16:UInt64)).toNat:Int)))=(k:Int)∧1 ≤ k∧k ≤ 16:=by
 have hk:((u64 a) % (16:UInt64)).toNat < 16:=by
  rw [UInt64.toNat_mod];exact Nat.mod_lt _ (by decide)
 refine ⟨1 + ((u64 a) % (16:UInt64)).toNat,?_,by omega,by omega⟩
 rw [xv6 (by omega),xv2 (by omega) (by omega)]
 simp
theorem SrtOf.self {l:List fn104} (h:SrtP l):SrtOf l l:=⟨h,SE.refl _⟩
theorem xv174 (a:Int) (o o2:Option (List fn104)) (t:Option (List Int)) (ht:(L t).length ≤ 9223372036854775807):fn47 a ⟨o,o2⟩ t=some true:=by
 obtain ⟨k,e,k1,k2⟩:=xv223 a
 obtain ⟨r,f1,f2,f3,f4,f5⟩:=xv102 o k k1 k2
 obtain ⟨r',f1',f2',f3',f4',f5'⟩:=xv102 o2 k k1 k2
 simp only [fn47,e,f1,f1',xv216,chk]
 rw [if_pos (by decide)]
 simp only [Option.bind_some]
 obtain ⟨p1,x,t1,t2,t3,t4⟩:=xv54 (o:=r) f3.one f2 rfl
 obtain ⟨p1',x',t1',t2',t3',t4'⟩:=xv54 (o:=r') f3'.one f2' rfl
 rw [if_neg (by simp),xv190 r (by omega),xv190 r' (by omega)]
 simp only [Option.bind_some]
 rw [p1,p1']
 simp only [Option.bind_some]
 rw [xv109 _ _ (by omega)]
 simp only [Option.bind_some]
 have inj:decide (L (some (putN (L r)))=L (some (putN (L r'))))=decide (L r=L r'):=by
  rw [decide_eq_decide]
  refine ⟨fun h=>?_,fun h=>by rw [h]⟩
  have h:putN (L r)=putN (L r'):=h
  rw [h,t1'] at t1
  simp only [Option.some.injEq,Prod.mk.injEq,true_and,and_true] at t1
  rw [← SrtOf.uniq t2 (SrtOf.self f4),← SrtOf.uniq t2' (SrtOf.self f4'),t1]
 rw [inj,if_neg (by simp),if_pos (by unfold room;simp;omega)]
 simp only [Option.bind_some]
 generalize hn:(L r).length=n at *
 obtain ⟨z,hz,hz1,hz2⟩:=xv169 (fn47_l0 t n) (fun i z=>z.1=(i:Int)∧z.2.length=n∧∀ x ∈ z.2,x ∈ L r) (min (L t).length 10)
  (fun z=>z.length=n∧∀ x ∈ z,x ∈ L r)
  (fun i z hi hz=>by
   obtain ⟨z1,z2⟩:=z
   obtain ⟨rfl,h1,h2⟩:=hz
   simp only at h1 h2
   simp only [fn47_l0,fn47_b0]
   have hit:i < (L t).length:=by omega
   rw [if_pos (by rw [decide_eq_true_eq];omega),if_pos (by rw [decide_eq_true_eq];omega)]
   by_cases h0:0 < n
   ·rw [if_pos (by rw [decide_eq_true_eq];omega)]
    have un:(u64 ((n:Nat):Int)).toNat=n:=xv11 (by omega)
    have ep:((i:Int).tmod ((n:Nat):Int))=((i % n:Nat):Int):=by
     rw [Int.tmod_eq_emod_of_nonneg (by omega)];simp
    have hp:i % n < n:=Nat.mod_lt _ h0
    rw [xv0,List.getElem?_eq_getElem hit]
    simp only [chk,Option.bind_some,ep]
    have hq:((u64 (L t)[i]) % (u64 ((n:Nat):Int))).toNat < n:=by
     rw [UInt64.toNat_mod,un];exact Nat.mod_lt _ h0
    rw [xv6 (by omega)]
    generalize ((u64 (L t)[i]) % (u64 ((n:Nat):Int))).toNat=q at hq ⊢
    generalize i % n=p at hp ⊢
    rw [if_pos (by rw [decide_eq_true_eq];omega),if_pos (by
     rw [decide_eq_true_eq]
     intro h
     have:=congrArg UInt64.toNat h
     rw [un] at this
     simp at this;omega)]
    simp only [Option.bind_some]
    rw [if_pos (show decide (0 ≤ (p:Int)∧(p:Int) < ((n:Nat):Int))=true by rw [decide_eq_true_eq];omega),if_pos (show decide (0 ≤ (q:Int)∧(q:Int) < ((n:Nat):Int))=true by rw [decide_eq_true_eq];omega)]
    simp only [Option.bind_some]
    have hpz:p < z2.length:=by omega
    have hqz:q < z2.length:=by omega
    rw [xv0,xv0,List.getElem?_eq_getElem hpz,List.getElem?_eq_getElem hqz]
    simp only [Option.bind_some]
    split
    ·have hl2:(setR z2 p z2[q]).length=z2.length:=yv715 _ _ _
     simp only [Int.toNat_natCast,xv0]
     rw [List.getElem?_eq_getElem (show q < (setR z2 p z2[q]).length by omega)]
     simp only [Option.bind_some]
     refine .inl ⟨_,rfl,xv10 (by omega),by simp only [yv715];exact h1,fun x hx=>?_⟩
     rcases xv58 _ _ _ _ hx with rfl|hx
     ·exact h2 _ (List.getElem_mem _)
     ·rcases xv58 _ _ _ _ hx with rfl|hx
      ·exact h2 _ (List.getElem_mem _)
      ·exact h2 _ hx
    ·exact .inl ⟨_,rfl,xv10 (by omega),h1,h2⟩
   ·rw [if_neg (by rw [decide_eq_true_eq];omega)]
    exact .inr ⟨_,rfl,h1,h2⟩)
  (fun z hz=>by
   obtain ⟨z1,z2⟩:=z
   obtain ⟨rfl,h1,h2⟩:=hz
   simp only at h1 h2
   simp only [fn47_l0,fn47_b0]
   by_cases hc:(L t).length ≤ 10
   ·rw [if_neg (by rw [decide_eq_true_eq];omega)]
    exact ⟨_,rfl,h1,h2⟩
   ·rw [if_pos (by rw [decide_eq_true_eq];omega),if_neg (by rw [decide_eq_true_eq];omega)]
    exact ⟨_,rfl,h1,h2⟩)
  (0,L r) ⟨rfl,hn,fun x hx=>hx⟩
 rw [hz]
 simp only [Option.bind_some]
 rw [if_pos (by rw [decide_eq_true_eq];omega)]
 simp only [Option.bind_some]
 rw [List.take_of_length_le (by omega),xv190 (some z) (by show z.length ≤ 1000;omega)]
 simp only [Option.bind_some]
 obtain ⟨s1,y,s2,s3,s4,s5⟩:=xv54 (o:=some z) (fun p hp=>f3.one p (hz2 p hp)) (by omega) rfl
 rw [s1]
 simp only [Option.bind_some,fn77]
 rw [show L (some (putN z))=putN z from rfl,s2]
 simp only [Option.bind_some,if_true]
 obtain ⟨s,g1,g2⟩:=xv183 (some z) (by show z.length ≤ 100000;omega)
 rw [xv166 y (by omega),g1]
 simp only [Option.bind_some]
 rw [xv109 _ _ (by rw [xv87,List.length_map];omega),xv87,SrtOf.uniq s3 g2]
 simp [L,hn]
 have:(L y).length=n:=by omega
 simp only [L] at this
 omega
end Go.Rv
namespace Go.Rv
end Go.Rv
namespace Go.Rv
theorem xv131 (x:tyL Tb [.g (.f (.a (.n .i64))),.g (.st 6),.g (.f (.a (.sl 2)))]) (hx:yv721 tab 4 [.g (.f (.a (.n .i64))),.g (.st 6),.g (.f (.a (.sl 2)))] x):fn47 x.1 (⟨x.2.1.x0,x.2.1.x1⟩:fn42) x.2.2.1=some true:=by
 have h:(L x.2.2.1).length ≤ maxLen:=hx.2.2.1.1
 unfold maxLen at h
 exact xv174 x.1 x.2.1.x0 x.2.1.x1 x.2.2.1 h
end Go.Rv
